/- Written by uprint.py (ours) for this seat: functions of the translation as Lean functions, and what their calls do. Not trusted: Lean checks it. -/
import Derived.Test.YtiaefbngegmpaaaUx0
import Derived.Test.YtiaefbngegmpaaaUx1
import Derived.Test.YtiaefbngegmpaaaUx2
import Derived.Test.YtiaefbngegmpaaaUx5
import Derived.Test.YtiaefbngegmpaaaUx7
import Derived.Test.YtiaefbngegmpaaaUx11
import Derived.Test.YtiaefbngegmpaaaUx14
namespace Go.Proofs.Ytiaefbngegmpaaa.U
open Go.RowKit Go.Proofs.YtiaefbngegmpaaaW.PrintWords Go.Proofs.YtiaefbngegmpaaaW.PrintLast Go.Proofs.YtiaefbngegmpaaaW.PrintMore
attribute [local go_sem] max2_int min2_int max_two min_two max_three min_three max_four min_four   -- for this text's walks alone
set_option linter.unusedVariables false
set_option linter.unusedSimpArgs false

attribute [local go_sem high] eqA24
/-! ### undercroftlaw06_GeomBack: function 7 -/
def undercroftlaw06_GeomBack.l0 : Nat → Int → List Int → Int → Bool → Int → Int → Int → Int → Int → Int → Int → Int → Int → Option (Bool)
  | 0, _, _, _, _, _, _, _, _, _, _, _, _, _ => none
  | k + 1, x2, x9, x13, x14, x15, x299000, x299001, x299002, x299003, x299004, x299005, x299006, x299007 => if x15 < 32 then (if 0 ≤ x15 then (if (Go.bits .and .u32 (shr .u32 x2 x15) 1) = 1 then (if (wrap64 (x13 + x15)) < 2048 then (if 0 ≤ (wrap64 (Int.tdiv (wrap64 (x13 + x15)) 8)) then (if (wrap64 (Int.tdiv (wrap64 (x13 + x15)) 8)) < (x9.length : Int) then (if 0 ≤ (Int.tmod (wrap64 (x13 + x15)) 8) then (undercroftlaw06_GeomBack.l0 k x2 (x9.set ((wrap64 (Int.tdiv (wrap64 (x13 + x15)) 8)) : Int).toNat (Go.bits .xor .u8 (rd x9 (wrap64 (Int.tdiv (wrap64 (x13 + x15)) 8))) (shl .u8 1 (Int.tmod (wrap64 (x13 + x15)) 8)))) x13 true (wrap64 (x15 + 1)) x299000 x299001 x299002 x299003 x299004 x299005 x299006 x299007) else (none)) else (none)) else (none)) else (undercroftlaw06_GeomBack.l0 k x2 x9 x13 x14 (wrap64 (x15 + 1)) x299000 x299001 x299002 x299003 x299004 x299005 x299006 x299007)) else (undercroftlaw06_GeomBack.l0 k x2 x9 x13 x14 (wrap64 (x15 + 1)) x299000 x299001 x299002 x299003 x299004 x299005 x299006 x299007)) else (none)) else ((geom_Decode.f k x9).bind fun bt315 => ((geom_Encode.f x299000 x299001 x299002 x299003 x299004 x299005 x299006 x299007).bind fun bt324 => ((undercroftref06_Encode.f k x299000 x299001 x299002 x299003 x299004 x299005 x299006 x299007).bind fun bt328 => (if ((bt315.2.2.2.2.2.2.2.2 == 13) == x14) = true then (if bt324.2 = 0 then (some ((strOfNums bt324.1).toList == (strOfNums bt328.1).toList)) else (some false)) else (some false)))))
def undercroftlaw06_GeomBack.j0 : Nat → Int → Int → List Int → Bool → Int → Int → Int → Int → Int → Int → Int → Int → Option (Bool)
  | 0, _, _, _, _, _, _, _, _, _, _, _, _ => none
  | k + 1, x1, x2, x9, x62, x299000, x299001, x299002, x299003, x299004, x299005, x299006, x299007 => if x62 = true then (some false) else (undercroftlaw06_GeomBack.l0 k x2 x9 (wrap64 (Int.tmod (IntKind.u64.wrap (x1)) 2048)) false 0 x299000 x299001 x299002 x299003 x299004 x299005 x299006 x299007)
def undercroftlaw06_GeomBack.f (k : Nat) (a0 : Int) (a1 : Int) (a2 : Int) : Option (Bool) := (undercroftlaw06_alive.f).bind fun t288 => (if t288 = true then ((geom_Layout.f a0).bind fun bt289 => ((geom_Encode.f bt289.1 bt289.2.1 bt289.2.2.1 bt289.2.2.2.1 bt289.2.2.2.2.1 bt289.2.2.2.2.2.1 bt289.2.2.2.2.2.2.1 bt289.2.2.2.2.2.2.2.1).bind fun bt299 => (if bt289.2.2.2.2.2.2.2.2 = 0 then ((geom_Decode.f k bt299.1).bind fun bt303 => (if bt299.2 = 0 then (if bt303.2.2.2.2.2.2.2.2 = 0 then (if (!(bt303.1 == bt289.1) || (!(bt303.2.1 == bt289.2.1) || (!(bt303.2.2.1 == bt289.2.2.1) || (!(bt303.2.2.2.1 == bt289.2.2.2.1) || (!(bt303.2.2.2.2.1 == bt289.2.2.2.2.1) || (!(bt303.2.2.2.2.2.1 == bt289.2.2.2.2.2.1) || (!(bt303.2.2.2.2.2.2.1 == bt289.2.2.2.2.2.2.1) || (!(bt303.2.2.2.2.2.2.2.1 == bt289.2.2.2.2.2.2.2.1))))))))) = true then (undercroftlaw06_GeomBack.j0 k a1 a2 bt299.1 true bt289.1 bt289.2.1 bt289.2.2.1 bt289.2.2.2.1 bt289.2.2.2.2.1 bt289.2.2.2.2.2.1 bt289.2.2.2.2.2.2.1 bt289.2.2.2.2.2.2.2.1) else (undercroftlaw06_GeomBack.j0 k a1 a2 bt299.1 ((bt299.1.length : Int) != 256) bt289.1 bt289.2.1 bt289.2.2.1 bt289.2.2.2.1 bt289.2.2.2.2.1 bt289.2.2.2.2.2.1 bt289.2.2.2.2.2.2.1 bt289.2.2.2.2.2.2.2.1)) else (undercroftlaw06_GeomBack.j0 k a1 a2 bt299.1 true bt289.1 bt289.2.1 bt289.2.2.1 bt289.2.2.2.1 bt289.2.2.2.2.1 bt289.2.2.2.2.2.1 bt289.2.2.2.2.2.2.1 bt289.2.2.2.2.2.2.2.1)) else (undercroftlaw06_GeomBack.j0 k a1 a2 bt299.1 true bt289.1 bt289.2.1 bt289.2.2.1 bt289.2.2.2.1 bt289.2.2.2.2.1 bt289.2.2.2.2.2.1 bt289.2.2.2.2.2.2.1 bt289.2.2.2.2.2.2.2.1))) else (if bt299.2 = 1 then (some ((bt299.1.length : Int) == 0)) else (some false))))) else (some false))
theorem undercroftlaw06_GeomBack.mono_l : ∀ k, (∀ y0 y1 y2 y3 y4 y5 y6 y7 y8 y9 y10 y11, LeO (undercroftlaw06_GeomBack.j0 k y0 y1 y2 y3 y4 y5 y6 y7 y8 y9 y10 y11) (undercroftlaw06_GeomBack.j0 (k + 1) y0 y1 y2 y3 y4 y5 y6 y7 y8 y9 y10 y11)) ∧ (∀ y0 y1 y2 y3 y4 y5 y6 y7 y8 y9 y10 y11 y12, LeO (undercroftlaw06_GeomBack.l0 k y0 y1 y2 y3 y4 y5 y6 y7 y8 y9 y10 y11 y12) (undercroftlaw06_GeomBack.l0 (k + 1) y0 y1 y2 y3 y4 y5 y6 y7 y8 y9 y10 y11 y12))
  | 0 => ⟨fun _ _ _ _ _ _ _ _ _ _ _ _ r h => by simp [undercroftlaw06_GeomBack.j0] at h, fun _ _ _ _ _ _ _ _ _ _ _ _ _ r h => by simp [undercroftlaw06_GeomBack.l0] at h⟩
  | k + 1 => by
    obtain ⟨ih0, ih1⟩ := undercroftlaw06_GeomBack.mono_l k
    refine ⟨?_, ?_⟩
    · intro y0 y1 y2 y3 y4 y5 y6 y7 y8 y9 y10 y11
      unfold undercroftlaw06_GeomBack.j0
      repeat' first
      | (with_reducible exact ih0 _ _ _ _ _ _ _ _ _ _ _ _)
      | (with_reducible exact ih1 _ _ _ _ _ _ _ _ _ _ _ _ _)
      | (with_reducible exact geom_Decode.mono _ _)
      | (with_reducible exact undercroftref06_Encode.mono _ _ _ _ _ _ _ _ _)
      | (with_reducible exact LeO.refl _)
      | (with_reducible exact LeO.none _)
      | (with_reducible refine LeO.ite ?_ ?_)
      | (with_reducible refine LeO.bind ?_ (fun _ => ?_))
      | exact ih0 _ _ _ _ _ _ _ _ _ _ _ _
      | exact ih1 _ _ _ _ _ _ _ _ _ _ _ _ _
      | exact geom_Decode.mono _ _
      | exact undercroftref06_Encode.mono _ _ _ _ _ _ _ _ _
      | exact LeO.none _
      | refine LeO.ite ?_ ?_
      | refine LeO.bind ?_ (fun _ => ?_)
    · intro y0 y1 y2 y3 y4 y5 y6 y7 y8 y9 y10 y11 y12
      unfold undercroftlaw06_GeomBack.l0
      repeat' first
      | (with_reducible exact ih0 _ _ _ _ _ _ _ _ _ _ _ _)
      | (with_reducible exact ih1 _ _ _ _ _ _ _ _ _ _ _ _ _)
      | (with_reducible exact geom_Decode.mono _ _)
      | (with_reducible exact undercroftref06_Encode.mono _ _ _ _ _ _ _ _ _)
      | (with_reducible exact LeO.refl _)
      | (with_reducible exact LeO.none _)
      | (with_reducible refine LeO.ite ?_ ?_)
      | (with_reducible refine LeO.bind ?_ (fun _ => ?_))
      | exact ih0 _ _ _ _ _ _ _ _ _ _ _ _
      | exact ih1 _ _ _ _ _ _ _ _ _ _ _ _ _
      | exact geom_Decode.mono _ _
      | exact undercroftref06_Encode.mono _ _ _ _ _ _ _ _ _
      | exact LeO.none _
      | refine LeO.ite ?_ ?_
      | refine LeO.bind ?_ (fun _ => ?_)
theorem undercroftlaw06_GeomBack.mono : ∀ a0 a1 a2 k, LeO (undercroftlaw06_GeomBack.f k a0 a1 a2) (undercroftlaw06_GeomBack.f (k + 1) a0 a1 a2) := by
  intro a0 a1 a2 k
  obtain ⟨ih0, ih1⟩ := undercroftlaw06_GeomBack.mono_l k
  unfold undercroftlaw06_GeomBack.f
  repeat' first
      | (with_reducible exact ih0 _ _ _ _ _ _ _ _ _ _ _ _)
      | (with_reducible exact ih1 _ _ _ _ _ _ _ _ _ _ _ _ _)
      | (with_reducible exact geom_Decode.mono _ _)
      | (with_reducible exact undercroftref06_Encode.mono _ _ _ _ _ _ _ _ _)
      | (with_reducible exact LeO.refl _)
      | (with_reducible exact LeO.none _)
      | (with_reducible refine LeO.ite ?_ ?_)
      | (with_reducible refine LeO.bind ?_ (fun _ => ?_))
      | exact ih0 _ _ _ _ _ _ _ _ _ _ _ _
      | exact ih1 _ _ _ _ _ _ _ _ _ _ _ _ _
      | exact geom_Decode.mono _ _
      | exact undercroftref06_Encode.mono _ _ _ _ _ _ _ _ _
      | exact LeO.none _
      | refine LeO.ite ?_ ?_
      | refine LeO.bind ?_ (fun _ => ?_)
def undercroftlaw06_GeomBack.T17 : Bool × List (List Nat × List Nat) := (true, [([], []), ([], []), ([1], [1]), ([0, 2], [0, 2]), ([3], [3]), ([], []), ([5], [5]), ([6], [6]), ([4, 7], [4, 7]), ([0, 2, 0, 1, 2, 3, 4, 5, 6, 7, 8], [0, 2]), ([9, 8, 0, 1, 2, 3, 4, 5, 6, 7, 8], [8, 9])])
def undercroftlaw06_GeomBack.B17 : List Nat := [0, 0, 2, 7, 15, 0, 32, 96, 255, 511, 1023]
theorem undercroftlaw06_GeomBack.tab17 : rtab .any (opsOf Try.f7 17) = undercroftlaw06_GeomBack.T17 := by kernel_rfl
theorem undercroftlaw06_GeomBack.bits17 : waitsOk undercroftlaw06_GeomBack.T17.2 undercroftlaw06_GeomBack.B17 = true := by kernel_rfl
set_option maxHeartbeats 8000000 in
set_option maxRecDepth 100000 in
theorem undercroftlaw06_GeomBack.calls (k : Nat) (a0 : Int) (a1 : Int) (a2 : Int) (r : Bool) (w : World) (h : undercroftlaw06_GeomBack.f k a0 a1 a2 = some r) (hT : r = true) :
    Calls Try.prog 7 #[.int .i64 a0, .int .i64 a1, .int .u32 a2] w fun e w' => e = .returned (.bool r) ∧ Below w.heap.size w w' := by
  have hu24 := Try.underlying24
  have HB := Aside0.mk (Below.refl w.heap.size w)
  have H : ((undercroftlaw06_alive.f).bind fun t288 => (if t288 = true then ((geom_Layout.f a0).bind fun bt289 => ((geom_Encode.f bt289.1 bt289.2.1 bt289.2.2.1 bt289.2.2.2.1 bt289.2.2.2.2.1 bt289.2.2.2.2.2.1 bt289.2.2.2.2.2.2.1 bt289.2.2.2.2.2.2.2.1).bind fun bt299 => (if bt289.2.2.2.2.2.2.2.2 = 0 then ((geom_Decode.f k bt299.1).bind fun bt303 => (if bt299.2 = 0 then (if bt303.2.2.2.2.2.2.2.2 = 0 then (if (!(bt303.1 == bt289.1) || (!(bt303.2.1 == bt289.2.1) || (!(bt303.2.2.1 == bt289.2.2.1) || (!(bt303.2.2.2.1 == bt289.2.2.2.1) || (!(bt303.2.2.2.2.1 == bt289.2.2.2.2.1) || (!(bt303.2.2.2.2.2.1 == bt289.2.2.2.2.2.1) || (!(bt303.2.2.2.2.2.2.1 == bt289.2.2.2.2.2.2.1) || (!(bt303.2.2.2.2.2.2.2.1 == bt289.2.2.2.2.2.2.2.1))))))))) = true then (undercroftlaw06_GeomBack.j0 k a1 a2 bt299.1 true bt289.1 bt289.2.1 bt289.2.2.1 bt289.2.2.2.1 bt289.2.2.2.2.1 bt289.2.2.2.2.2.1 bt289.2.2.2.2.2.2.1 bt289.2.2.2.2.2.2.2.1) else (undercroftlaw06_GeomBack.j0 k a1 a2 bt299.1 ((bt299.1.length : Int) != 256) bt289.1 bt289.2.1 bt289.2.2.1 bt289.2.2.2.1 bt289.2.2.2.2.1 bt289.2.2.2.2.2.1 bt289.2.2.2.2.2.2.1 bt289.2.2.2.2.2.2.2.1)) else (undercroftlaw06_GeomBack.j0 k a1 a2 bt299.1 true bt289.1 bt289.2.1 bt289.2.2.1 bt289.2.2.2.1 bt289.2.2.2.2.1 bt289.2.2.2.2.2.1 bt289.2.2.2.2.2.2.1 bt289.2.2.2.2.2.2.2.1)) else (undercroftlaw06_GeomBack.j0 k a1 a2 bt299.1 true bt289.1 bt289.2.1 bt289.2.2.1 bt289.2.2.2.1 bt289.2.2.2.2.1 bt289.2.2.2.2.2.1 bt289.2.2.2.2.2.2.1 bt289.2.2.2.2.2.2.2.1))) else (if bt299.2 = 1 then (some ((bt299.1.length : Int) == 0)) else (some false))))) else (some false))) = some r := h
  clear h
  replace H := Option.bind_eq_some_iff.mp H
  obtain ⟨t288, A40, H⟩ := H
  replace H : (if t288 = true then ((geom_Layout.f a0).bind fun bt289 => ((geom_Encode.f bt289.1 bt289.2.1 bt289.2.2.1 bt289.2.2.2.1 bt289.2.2.2.2.1 bt289.2.2.2.2.2.1 bt289.2.2.2.2.2.2.1 bt289.2.2.2.2.2.2.2.1).bind fun bt299 => (if bt289.2.2.2.2.2.2.2.2 = 0 then ((geom_Decode.f k bt299.1).bind fun bt303 => (if bt299.2 = 0 then (if bt303.2.2.2.2.2.2.2.2 = 0 then (if (!(bt303.1 == bt289.1) || (!(bt303.2.1 == bt289.2.1) || (!(bt303.2.2.1 == bt289.2.2.1) || (!(bt303.2.2.2.1 == bt289.2.2.2.1) || (!(bt303.2.2.2.2.1 == bt289.2.2.2.2.1) || (!(bt303.2.2.2.2.2.1 == bt289.2.2.2.2.2.1) || (!(bt303.2.2.2.2.2.2.1 == bt289.2.2.2.2.2.2.1) || (!(bt303.2.2.2.2.2.2.2.1 == bt289.2.2.2.2.2.2.2.1))))))))) = true then (undercroftlaw06_GeomBack.j0 k a1 a2 bt299.1 true bt289.1 bt289.2.1 bt289.2.2.1 bt289.2.2.2.1 bt289.2.2.2.2.1 bt289.2.2.2.2.2.1 bt289.2.2.2.2.2.2.1 bt289.2.2.2.2.2.2.2.1) else (undercroftlaw06_GeomBack.j0 k a1 a2 bt299.1 ((bt299.1.length : Int) != 256) bt289.1 bt289.2.1 bt289.2.2.1 bt289.2.2.2.1 bt289.2.2.2.2.1 bt289.2.2.2.2.2.1 bt289.2.2.2.2.2.2.1 bt289.2.2.2.2.2.2.2.1)) else (undercroftlaw06_GeomBack.j0 k a1 a2 bt299.1 true bt289.1 bt289.2.1 bt289.2.2.1 bt289.2.2.2.1 bt289.2.2.2.2.1 bt289.2.2.2.2.2.1 bt289.2.2.2.2.2.2.1 bt289.2.2.2.2.2.2.2.1)) else (undercroftlaw06_GeomBack.j0 k a1 a2 bt299.1 true bt289.1 bt289.2.1 bt289.2.2.1 bt289.2.2.2.1 bt289.2.2.2.2.1 bt289.2.2.2.2.2.1 bt289.2.2.2.2.2.2.1 bt289.2.2.2.2.2.2.2.1))) else (if bt299.2 = 1 then (some ((bt299.1.length : Int) == 0)) else (some false))))) else (some false)) = some r := H
  have A4 := Aside0.mk A40
  clear A40
  by_cases c5 : t288 = true
  · subst c5
    have H1 : ((geom_Layout.f a0).bind fun bt289 => ((geom_Encode.f bt289.1 bt289.2.1 bt289.2.2.1 bt289.2.2.2.1 bt289.2.2.2.2.1 bt289.2.2.2.2.2.1 bt289.2.2.2.2.2.2.1 bt289.2.2.2.2.2.2.2.1).bind fun bt299 => (if bt289.2.2.2.2.2.2.2.2 = 0 then ((geom_Decode.f k bt299.1).bind fun bt303 => (if bt299.2 = 0 then (if bt303.2.2.2.2.2.2.2.2 = 0 then (if (!(bt303.1 == bt289.1) || (!(bt303.2.1 == bt289.2.1) || (!(bt303.2.2.1 == bt289.2.2.1) || (!(bt303.2.2.2.1 == bt289.2.2.2.1) || (!(bt303.2.2.2.2.1 == bt289.2.2.2.2.1) || (!(bt303.2.2.2.2.2.1 == bt289.2.2.2.2.2.1) || (!(bt303.2.2.2.2.2.2.1 == bt289.2.2.2.2.2.2.1) || (!(bt303.2.2.2.2.2.2.2.1 == bt289.2.2.2.2.2.2.2.1))))))))) = true then (undercroftlaw06_GeomBack.j0 k a1 a2 bt299.1 true bt289.1 bt289.2.1 bt289.2.2.1 bt289.2.2.2.1 bt289.2.2.2.2.1 bt289.2.2.2.2.2.1 bt289.2.2.2.2.2.2.1 bt289.2.2.2.2.2.2.2.1) else (undercroftlaw06_GeomBack.j0 k a1 a2 bt299.1 ((bt299.1.length : Int) != 256) bt289.1 bt289.2.1 bt289.2.2.1 bt289.2.2.2.1 bt289.2.2.2.2.1 bt289.2.2.2.2.2.1 bt289.2.2.2.2.2.2.1 bt289.2.2.2.2.2.2.2.1)) else (undercroftlaw06_GeomBack.j0 k a1 a2 bt299.1 true bt289.1 bt289.2.1 bt289.2.2.1 bt289.2.2.2.1 bt289.2.2.2.2.1 bt289.2.2.2.2.2.1 bt289.2.2.2.2.2.2.1 bt289.2.2.2.2.2.2.2.1)) else (undercroftlaw06_GeomBack.j0 k a1 a2 bt299.1 true bt289.1 bt289.2.1 bt289.2.2.1 bt289.2.2.2.1 bt289.2.2.2.2.1 bt289.2.2.2.2.2.1 bt289.2.2.2.2.2.2.1 bt289.2.2.2.2.2.2.2.1))) else (if bt299.2 = 1 then (some ((bt299.1.length : Int) == 0)) else (some false))))) = some r := by rw [if_pos rfl] at H; exact H
    clear H
    have H := H1
    clear H1
    replace H := Option.bind_eq_some_iff.mp H
    obtain ⟨⟨t289, t290, t291, t292, t293, t294, t295, t296, t297⟩, A60, H⟩ := H
    replace H : ((geom_Encode.f t289 t290 t291 t292 t293 t294 t295 t296).bind fun bt299 => (if t297 = 0 then ((geom_Decode.f k bt299.1).bind fun bt303 => (if bt299.2 = 0 then (if bt303.2.2.2.2.2.2.2.2 = 0 then (if (!(bt303.1 == t289) || (!(bt303.2.1 == t290) || (!(bt303.2.2.1 == t291) || (!(bt303.2.2.2.1 == t292) || (!(bt303.2.2.2.2.1 == t293) || (!(bt303.2.2.2.2.2.1 == t294) || (!(bt303.2.2.2.2.2.2.1 == t295) || (!(bt303.2.2.2.2.2.2.2.1 == t296))))))))) = true then (undercroftlaw06_GeomBack.j0 k a1 a2 bt299.1 true t289 t290 t291 t292 t293 t294 t295 t296) else (undercroftlaw06_GeomBack.j0 k a1 a2 bt299.1 ((bt299.1.length : Int) != 256) t289 t290 t291 t292 t293 t294 t295 t296)) else (undercroftlaw06_GeomBack.j0 k a1 a2 bt299.1 true t289 t290 t291 t292 t293 t294 t295 t296)) else (undercroftlaw06_GeomBack.j0 k a1 a2 bt299.1 true t289 t290 t291 t292 t293 t294 t295 t296))) else (if bt299.2 = 1 then (some ((bt299.1.length : Int) == 0)) else (some false)))) = some r := H
    have A6 := Aside0.mk A60
    clear A60
    replace H := Option.bind_eq_some_iff.mp H
    obtain ⟨⟨t299, t302⟩, A70, H⟩ := H
    replace H : (if t297 = 0 then ((geom_Decode.f k t299).bind fun bt303 => (if t302 = 0 then (if bt303.2.2.2.2.2.2.2.2 = 0 then (if (!(bt303.1 == t289) || (!(bt303.2.1 == t290) || (!(bt303.2.2.1 == t291) || (!(bt303.2.2.2.1 == t292) || (!(bt303.2.2.2.2.1 == t293) || (!(bt303.2.2.2.2.2.1 == t294) || (!(bt303.2.2.2.2.2.2.1 == t295) || (!(bt303.2.2.2.2.2.2.2.1 == t296))))))))) = true then (undercroftlaw06_GeomBack.j0 k a1 a2 t299 true t289 t290 t291 t292 t293 t294 t295 t296) else (undercroftlaw06_GeomBack.j0 k a1 a2 t299 ((t299.length : Int) != 256) t289 t290 t291 t292 t293 t294 t295 t296)) else (undercroftlaw06_GeomBack.j0 k a1 a2 t299 true t289 t290 t291 t292 t293 t294 t295 t296)) else (undercroftlaw06_GeomBack.j0 k a1 a2 t299 true t289 t290 t291 t292 t293 t294 t295 t296))) else (if t302 = 1 then (some ((t299.length : Int) == 0)) else (some false))) = some r := H
    have A7 := Aside0.mk A70
    clear A70
    by_cases c8 : t297 = 0
    · rw [if_pos c8] at H
      have c8b0 : (t297 == 0) = true := beq_iff_eq.mpr c8
      have c8b1 : (t297 != 0) = false := bne_eq_false_iff_eq.mpr c8
      clear c8
      replace H := Option.bind_eq_some_iff.mp H
      obtain ⟨⟨t303, t304, t305, t306, t307, t308, t309, t310, t311⟩, A90, H⟩ := H
      replace H : (if t302 = 0 then (if t311 = 0 then (if (!(t303 == t289) || (!(t304 == t290) || (!(t305 == t291) || (!(t306 == t292) || (!(t307 == t293) || (!(t308 == t294) || (!(t309 == t295) || (!(t310 == t296))))))))) = true then (undercroftlaw06_GeomBack.j0 k a1 a2 t299 true t289 t290 t291 t292 t293 t294 t295 t296) else (undercroftlaw06_GeomBack.j0 k a1 a2 t299 ((t299.length : Int) != 256) t289 t290 t291 t292 t293 t294 t295 t296)) else (undercroftlaw06_GeomBack.j0 k a1 a2 t299 true t289 t290 t291 t292 t293 t294 t295 t296)) else (undercroftlaw06_GeomBack.j0 k a1 a2 t299 true t289 t290 t291 t292 t293 t294 t295 t296)) = some r := H
      have A9 := Aside0.mk A90
      clear A90
      have HC10 := Aside0.mk H
      clear H
      go_enter Try.func7, Try.ntmps7
      go_upto_region 8 with (first | ((with_reducible refine gate_callee (f := 8) rfl ?_); refine goesL_ (some 21) rfl rfl Try.func8 (by kernel_rfl) rfl #[] rfl (by (try simp only [List.map_toArray, List.map_cons, List.map_nil]); first | done | rfl | (simp only [List.length_drop, List.length_take]; rfl)) ?_; (with_reducible refine (undercroftlaw06_alive.calls  true _ A4.out).mono ?_); rintro e w11 ⟨rfl, hb⟩; refine ⟨_, rfl, ?_⟩; have n0_ := Aside0.mk (below_step (by repeat (first | (with_reducible first | exact HB.out | apply below_alloc | apply pw_below_drewN | apply below_drew1) | exact HB.out)) hb); clear HB; have HB := n0_; clear n0_; (try clear hb); (try clear hb2); (try clear hk); (try clear hi)) | ((with_reducible refine gate_callee (f := 9) rfl ?_); refine goesL_ (some 25) rfl rfl Try.func9 (by kernel_rfl) rfl #[.int .i64 a0] rfl (by (try simp only [List.map_toArray, List.map_cons, List.map_nil]); first | done | rfl | (simp only [List.length_drop, List.length_take]; rfl)) ?_; (with_reducible refine (geom_Layout.calls a0 t289 t290 t291 t292 t293 t294 t295 t296 t297 _ A6.out).mono ?_); rintro e w12 ⟨rfl, hb⟩; refine ⟨_, rfl, ?_⟩; have n0_ := Aside0.mk (below_step (by repeat (first | (with_reducible first | exact HB.out | apply below_alloc | apply pw_below_drewN | apply below_drew1) | exact HB.out)) hb); clear HB; have HB := n0_; clear n0_; (try clear hb); (try clear hb2); (try clear hk); (try clear hi)) | ((with_reducible refine gate_dst (N := 7) rfl ?_); (try (refine gate_guard (by rfl) ?_; dsimp only)); refine box_event ?hg (N := 7) ?hd (cs := #[.int .i64 0, .int .i64 0, .int .i64 0, .int .i64 0, .int .i64 0, .int .i64 0, .int .i64 0, .int .i64 0]) (t := 24) ?hr ?_; (case hd => rfl); (case hg => rfl); (case hr => first | (go_simp; done) | (go_simp; rfl)); intro gb298 hg w13 hbox hb; have n0_ := Aside0.mk (below_step (by repeat (first | (with_reducible first | exact HB.out | apply below_alloc | apply pw_below_drewN | apply below_drew1) | exact HB.out)) hb); have n1_ := Aside0.mk (hbox); have n2_ := Aside0.mk ((by rw [hg]; exact (below_size (by repeat (first | (with_reducible first | exact HB.out | apply below_alloc | apply pw_below_drewN | apply below_drew1) | exact HB.out))) : w.heap.size ≤ gb298)); have n3_ := Aside0.mk ((by rw [hg]; exact (below_size (by repeat (first | (with_reducible first | exact HB.out | apply below_alloc | apply pw_below_drewN | apply below_drew1) | exact HB.out))) : w.heap.size ≤ gb298)); clear HB; have HB := n0_; have BK298 := n1_; have GW298 := n2_; have GE298 := n3_; clear n0_ n1_ n2_ n3_; clear hb hbox hg; have hcz14_0 : w13.cell? ⟨gb298, 0, none⟩ = some (.int .i64 0) := (blk_cell BK298.out 0).trans rfl; have hcz14_1 : w13.cell? ⟨gb298, 1, none⟩ = some (.int .i64 0) := (blk_cell BK298.out 1).trans rfl; have hcz14_2 : w13.cell? ⟨gb298, 2, none⟩ = some (.int .i64 0) := (blk_cell BK298.out 2).trans rfl; have hcz14_3 : w13.cell? ⟨gb298, 3, none⟩ = some (.int .i64 0) := (blk_cell BK298.out 3).trans rfl; have hcz14_4 : w13.cell? ⟨gb298, 4, none⟩ = some (.int .i64 0) := (blk_cell BK298.out 4).trans rfl; have hcz14_5 : w13.cell? ⟨gb298, 5, none⟩ = some (.int .i64 0) := (blk_cell BK298.out 5).trans rfl; have hcz14_6 : w13.cell? ⟨gb298, 6, none⟩ = some (.int .i64 0) := (blk_cell BK298.out 6).trans rfl; have hcz14_7 : w13.cell? ⟨gb298, 7, none⟩ = some (.int .i64 0) := (blk_cell BK298.out 7).trans rfl; have hfz14_0 := blk_frozen BK298.out 0; have hfz14_1 := blk_frozen BK298.out 1; have hfz14_2 := blk_frozen BK298.out 2; have hfz14_3 := blk_frozen BK298.out 3; have hfz14_4 := blk_frozen BK298.out 4; have hfz14_5 := blk_frozen BK298.out 5; have hfz14_6 := blk_frozen BK298.out 6; have hfz14_7 := blk_frozen BK298.out 7) | ((with_reducible refine gate_callee (f := 10) rfl ?_); refine goesL_ (some 30) rfl rfl Try.func10 (by kernel_rfl) rfl #[.agg #[.int .i64 t289, .int .i64 t290, .int .i64 t291, .int .i64 t292, .int .i64 t293, .int .i64 t294, .int .i64 t295, .int .i64 t296]] rfl (by (try simp only [List.map_toArray, List.map_cons, List.map_nil]); first | done | rfl | (simp only [List.length_drop, List.length_take]; rfl)) ?_; (with_reducible refine (geom_Encode.calls t289 t290 t291 t292 t293 t294 t295 t296 t299 t302 _ A7.out).mono ?_); rintro e w15 ⟨v300, rfl, ho0, hb⟩; refine ⟨_, rfl, ?_⟩; have n0_ := Aside0.mk (Kd.R_lower ho0 (below_size (by repeat (first | (with_reducible first | exact HB.out | apply below_alloc | apply pw_below_drewN | apply below_drew1 | refine below_set ?_ GE298.out) | exact HB.out)))); have n1_ := Aside0.mk (blk_below (g := gb298) (o := .cells #[.int .i64 t289, .int .i64 t290, .int .i64 t291, .int .i64 t292, .int .i64 t293, .int .i64 t294, .int .i64 t295, .int .i64 t296] 24 (0, 0)) (by (with_reducible repeat (first | refine blk_drewN ?_ _ | refine blk_drew ?_ | refine blk_alloc ?_ _)); refine blk_put (cs := #[.int .i64 t289, .int .i64 t290, .int .i64 t291, .int .i64 t292, .int .i64 t293, .int .i64 t294, .int .i64 t295, .int .i64 0]) ?_ 7 _ rfl; (with_reducible repeat (first | refine blk_drewN ?_ _ | refine blk_drew ?_ | refine blk_alloc ?_ _)); refine blk_put (cs := #[.int .i64 t289, .int .i64 t290, .int .i64 t291, .int .i64 t292, .int .i64 t293, .int .i64 t294, .int .i64 0, .int .i64 0]) ?_ 6 _ rfl; (with_reducible repeat (first | refine blk_drewN ?_ _ | refine blk_drew ?_ | refine blk_alloc ?_ _)); refine blk_put (cs := #[.int .i64 t289, .int .i64 t290, .int .i64 t291, .int .i64 t292, .int .i64 t293, .int .i64 0, .int .i64 0, .int .i64 0]) ?_ 5 _ rfl; (with_reducible repeat (first | refine blk_drewN ?_ _ | refine blk_drew ?_ | refine blk_alloc ?_ _)); refine blk_put (cs := #[.int .i64 t289, .int .i64 t290, .int .i64 t291, .int .i64 t292, .int .i64 0, .int .i64 0, .int .i64 0, .int .i64 0]) ?_ 4 _ rfl; (with_reducible repeat (first | refine blk_drewN ?_ _ | refine blk_drew ?_ | refine blk_alloc ?_ _)); refine blk_put (cs := #[.int .i64 t289, .int .i64 t290, .int .i64 t291, .int .i64 0, .int .i64 0, .int .i64 0, .int .i64 0, .int .i64 0]) ?_ 3 _ rfl; (with_reducible repeat (first | refine blk_drewN ?_ _ | refine blk_drew ?_ | refine blk_alloc ?_ _)); refine blk_put (cs := #[.int .i64 t289, .int .i64 t290, .int .i64 0, .int .i64 0, .int .i64 0, .int .i64 0, .int .i64 0, .int .i64 0]) ?_ 2 _ rfl; (with_reducible repeat (first | refine blk_drewN ?_ _ | refine blk_drew ?_ | refine blk_alloc ?_ _)); refine blk_put (cs := #[.int .i64 t289, .int .i64 0, .int .i64 0, .int .i64 0, .int .i64 0, .int .i64 0, .int .i64 0, .int .i64 0]) ?_ 1 _ rfl; (with_reducible repeat (first | refine blk_drewN ?_ _ | refine blk_drew ?_ | refine blk_alloc ?_ _)); refine blk_put (cs := #[.int .i64 0, .int .i64 0, .int .i64 0, .int .i64 0, .int .i64 0, .int .i64 0, .int .i64 0, .int .i64 0]) ?_ 0 _ rfl; (with_reducible repeat (first | refine blk_drewN ?_ _ | refine blk_drew ?_ | refine blk_alloc ?_ _)); exact BK298.out) hb); have n2_ := Aside0.mk (below_step (by repeat (first | (with_reducible first | exact HB.out | apply below_alloc | apply pw_below_drewN | apply below_drew1 | refine below_set ?_ GE298.out) | exact HB.out)) hb); clear BK298; clear HB; have HO301 := n0_; have BK298 := n1_; have HB := n2_; clear n0_ n1_ n2_; (try clear hb); (try clear hb2); (try clear hk); (try clear hi); (try clear ho0); obtain ⟨Ao16, co16, eo16⟩ := Kd.R_slice HO301.out; subst eo16) | ((with_reducible refine gate_callee (f := 17) rfl ?_); refine goesL_ (some 44) rfl rfl Try.func17 (by kernel_rfl) rfl #[.slice Ao16 t299.length co16] rfl (by (try simp only [List.map_toArray, List.map_cons, List.map_nil]); first | done | rfl | (simp only [List.length_drop, List.length_take]; rfl)) ?_; (with_reducible refine (geom_Decode.calls k _ _ t299 t303 t304 t305 t306 t307 t308 t309 t310 t311 _ ?side1 ?side2 A9.out).mono ?_); (case side1 => repeat (first | exact (Kd.R_reads' HO301.out).2.2 | (with_reducible refine Kd.C_alloc ?_ _) | (with_reducible refine Kd.C_drewN ?_ _) | (with_reducible refine Kd.C_drew ?_))); (case side2 => exact (Kd.R_reads' HO301.out).2.1); rintro e w17 ⟨rfl, hb⟩; refine ⟨_, rfl, ?_⟩; have n0_ := Aside0.mk (Kd.R_below (by (with_reducible repeat (first | apply Kd.R_alloc | apply Kd.R_drewN | apply Kd.R_drew)); exact HO301.out) hb); have n1_ := Aside0.mk (blk_below (g := gb298) (o := .cells #[.int .i64 t289, .int .i64 t290, .int .i64 t291, .int .i64 t292, .int .i64 t293, .int .i64 t294, .int .i64 t295, .int .i64 t296] 24 (0, 0)) (by (with_reducible repeat (first | refine blk_drewN ?_ _ | refine blk_drew ?_ | refine blk_alloc ?_ _)); exact BK298.out) hb); have n2_ := Aside0.mk (below_step (by repeat (first | (with_reducible first | exact HB.out | apply below_alloc | apply pw_below_drewN | apply below_drew1 | refine below_set ?_ GE298.out) | exact HB.out)) hb); clear HO301; clear BK298; clear HB; have HO301 := n0_; have BK298 := n1_; have HB := n2_; clear n0_ n1_ n2_; (try clear hb); (try clear hb2); (try clear hk); (try clear hi)) | ((with_reducible refine gate_dst (N := 11) rfl ?_); (try (refine gate_guard (by rfl) ?_; dsimp only)); refine box_event ?hg (N := 11) ?hd (cs := #[.int .i64 0, .int .i64 0, .int .i64 0, .int .i64 0, .int .i64 0, .int .i64 0, .int .i64 0, .int .i64 0]) (t := 24) ?hr ?_; (case hd => rfl); (case hg => rfl); (case hr => first | (go_simp; done) | (go_simp; rfl)); intro gb312 hg w18 hbox hb; have n0_ := Aside0.mk (Kd.R_below (by (with_reducible repeat (first | apply Kd.R_alloc | apply Kd.R_drewN | apply Kd.R_drew)); exact HO301.out) hb); have n1_ := Aside0.mk (blk_below (g := gb298) (o := .cells #[.int .i64 t289, .int .i64 t290, .int .i64 t291, .int .i64 t292, .int .i64 t293, .int .i64 t294, .int .i64 t295, .int .i64 t296] 24 (0, 0)) (by (with_reducible repeat (first | refine blk_drewN ?_ _ | refine blk_drew ?_ | refine blk_alloc ?_ _)); exact BK298.out) hb); have n2_ := Aside0.mk (below_step (by repeat (first | (with_reducible first | exact HB.out | apply below_alloc | apply pw_below_drewN | apply below_drew1 | refine below_set ?_ GE298.out) | exact HB.out)) hb); have n3_ := Aside0.mk (hbox); have n4_ := Aside0.mk ((by rw [hg]; exact (below_size (by repeat (first | (with_reducible first | exact HB.out | apply below_alloc | apply pw_below_drewN | apply below_drew1 | refine below_set ?_ GE298.out) | exact HB.out))) : w.heap.size ≤ gb312)); have n5_ := Aside0.mk ((by rw [hg]; exact (below_size (by repeat (first | (with_reducible first | exact HB.out | apply below_alloc | apply pw_below_drewN | apply below_drew1 | refine below_set ?_ GE298.out) | exact HB.out))) : w.heap.size ≤ gb312)); have n6_ := Aside0.mk ((by rw [hg]; exact Nat.ne_of_lt (blk_lt (g := gb298) (o := .cells #[.int .i64 t289, .int .i64 t290, .int .i64 t291, .int .i64 t292, .int .i64 t293, .int .i64 t294, .int .i64 t295, .int .i64 t296] 24 (0, 0)) (by (with_reducible repeat (first | refine blk_drewN ?_ _ | refine blk_drew ?_ | refine blk_alloc ?_ _)); exact BK298.out)) : gb298 ≠ gb312)); have n7_ := Aside0.mk ((by rw [hg]; exact Nat.ne_of_gt (blk_lt (g := gb298) (o := .cells #[.int .i64 t289, .int .i64 t290, .int .i64 t291, .int .i64 t292, .int .i64 t293, .int .i64 t294, .int .i64 t295, .int .i64 t296] 24 (0, 0)) (by (with_reducible repeat (first | refine blk_drewN ?_ _ | refine blk_drew ?_ | refine blk_alloc ?_ _)); exact BK298.out)) : gb312 ≠ gb298)); clear HO301; clear BK298; clear HB; have HO301 := n0_; have BK298 := n1_; have HB := n2_; have BK312 := n3_; have GW312 := n4_; have GE312 := n5_; have NB298_312 := n6_; have NB312_298 := n7_; clear n0_ n1_ n2_ n3_ n4_ n5_ n6_ n7_; clear hb hbox hg; have hnb19 := NB312_298.out; have hnc19 := NB298_312.out; have hcz20_0 : w18.cell? ⟨gb312, 0, none⟩ = some (.int .i64 0) := (blk_cell BK312.out 0).trans rfl; have hcz20_1 : w18.cell? ⟨gb312, 1, none⟩ = some (.int .i64 0) := (blk_cell BK312.out 1).trans rfl; have hcz20_2 : w18.cell? ⟨gb312, 2, none⟩ = some (.int .i64 0) := (blk_cell BK312.out 2).trans rfl; have hcz20_3 : w18.cell? ⟨gb312, 3, none⟩ = some (.int .i64 0) := (blk_cell BK312.out 3).trans rfl; have hcz20_4 : w18.cell? ⟨gb312, 4, none⟩ = some (.int .i64 0) := (blk_cell BK312.out 4).trans rfl; have hcz20_5 : w18.cell? ⟨gb312, 5, none⟩ = some (.int .i64 0) := (blk_cell BK312.out 5).trans rfl; have hcz20_6 : w18.cell? ⟨gb312, 6, none⟩ = some (.int .i64 0) := (blk_cell BK312.out 6).trans rfl; have hcz20_7 : w18.cell? ⟨gb312, 7, none⟩ = some (.int .i64 0) := (blk_cell BK312.out 7).trans rfl; have hfz20_0 := blk_frozen BK312.out 0; have hfz20_1 := blk_frozen BK312.out 1; have hfz20_2 := blk_frozen BK312.out 2; have hfz20_3 := blk_frozen BK312.out 3; have hfz20_4 := blk_frozen BK312.out 4; have hfz20_5 := blk_frozen BK312.out 5; have hfz20_6 := blk_frozen BK312.out 6; have hfz20_7 := blk_frozen BK312.out 7))
      (try simp only [Act.put, List.setIfInBounds_toArray, List.set_cons_zero, List.set_cons_succ])
      go_cut [62] (fun v62 wc => ∃ (kq : Nat) (x62_9 : Bool), v62 = .bool x62_9 ∧ Aside0 (undercroftlaw06_GeomBack.j0 kq a1 a2 t299 x62_9 t289 t290 t291 t292 t293 t294 t295 t296 = some r) ∧ Aside0 (kq ≤ k) ∧ Aside0 (Kd.R (Kd.int .u8) 5 wc w.heap.size (fun _ => True) (.slice Ao16 t299.length co16) t299) ∧ Aside0 (wc.heap[gb298]? = some (.cells #[.int .i64 t289, .int .i64 t290, .int .i64 t291, .int .i64 t292, .int .i64 t293, .int .i64 t294, .int .i64 t295, .int .i64 t296] 24 (0, 0))) ∧ Aside0 (wc.heap[gb312]? = some (.cells #[.int .i64 t303, .int .i64 t304, .int .i64 t305, .int .i64 t306, .int .i64 t307, .int .i64 t308, .int .i64 t309, .int .i64 t310] 24 (0, 0))) ∧ Aside0 (Below w.heap.size w wc))
      case first =>
        have H := HC10.out
        clear HC10
        by_cases c21 : t302 = 0
        · rw [if_pos c21] at H
          have c21b0 : (t302 == 0) = true := beq_iff_eq.mpr c21
          have c21b1 : (t302 != 0) = false := bne_eq_false_iff_eq.mpr c21
          clear c21
          (first | rw [c21b0] | (simp only [i64_w, i32_w]; rw [c21b0]) | skip)
          by_cases c22 : t311 = 0
          · rw [if_pos c22] at H
            have c22b0 : (t311 == 0) = true := beq_iff_eq.mpr c22
            have c22b1 : (t311 != 0) = false := bne_eq_false_iff_eq.mpr c22
            clear c22
            by_cases c23 : (!(t303 == t289) || (!(t304 == t290) || (!(t305 == t291) || (!(t306 == t292) || (!(t307 == t293) || (!(t308 == t294) || (!(t309 == t295) || (!(t310 == t296))))))))) = true
            · rw [if_pos c23] at H
              have c23b0 : (!(t303 == t289) || (!(t304 == t290) || (!(t305 == t291) || (!(t306 == t292) || (!(t307 == t293) || (!(t308 == t294) || (!(t309 == t295) || (!(t310 == t296))))))))) = true := c23
              clear c23
              have H' := Aside0.mk H
              clear H
              have hnb24 := NB312_298.out
              have hnc24 := NB298_312.out
              have hcz25_0 : w18.cell? ⟨gb312, 0, none⟩ = some (.int .i64 0) := (blk_cell BK312.out 0).trans rfl
              have hcz25_1 : w18.cell? ⟨gb312, 1, none⟩ = some (.int .i64 0) := (blk_cell BK312.out 1).trans rfl
              have hcz25_2 : w18.cell? ⟨gb312, 2, none⟩ = some (.int .i64 0) := (blk_cell BK312.out 2).trans rfl
              have hcz25_3 : w18.cell? ⟨gb312, 3, none⟩ = some (.int .i64 0) := (blk_cell BK312.out 3).trans rfl
              have hcz25_4 : w18.cell? ⟨gb312, 4, none⟩ = some (.int .i64 0) := (blk_cell BK312.out 4).trans rfl
              have hcz25_5 : w18.cell? ⟨gb312, 5, none⟩ = some (.int .i64 0) := (blk_cell BK312.out 5).trans rfl
              have hcz25_6 : w18.cell? ⟨gb312, 6, none⟩ = some (.int .i64 0) := (blk_cell BK312.out 6).trans rfl
              have hcz25_7 : w18.cell? ⟨gb312, 7, none⟩ = some (.int .i64 0) := (blk_cell BK312.out 7).trans rfl
              have hfz25_0 := blk_frozen BK312.out 0
              have hfz25_1 := blk_frozen BK312.out 1
              have hfz25_2 := blk_frozen BK312.out 2
              have hfz25_3 := blk_frozen BK312.out 3
              have hfz25_4 := blk_frozen BK312.out 4
              have hfz25_5 := blk_frozen BK312.out 5
              have hfz25_6 := blk_frozen BK312.out 6
              have hfz25_7 := blk_frozen BK312.out 7
              have hcz26_0 : w18.cell? ⟨gb298, 0, none⟩ = some (.int .i64 t289) := (blk_cell BK298.out 0).trans rfl
              have hcz26_1 : w18.cell? ⟨gb298, 1, none⟩ = some (.int .i64 t290) := (blk_cell BK298.out 1).trans rfl
              have hcz26_2 : w18.cell? ⟨gb298, 2, none⟩ = some (.int .i64 t291) := (blk_cell BK298.out 2).trans rfl
              have hcz26_3 : w18.cell? ⟨gb298, 3, none⟩ = some (.int .i64 t292) := (blk_cell BK298.out 3).trans rfl
              have hcz26_4 : w18.cell? ⟨gb298, 4, none⟩ = some (.int .i64 t293) := (blk_cell BK298.out 4).trans rfl
              have hcz26_5 : w18.cell? ⟨gb298, 5, none⟩ = some (.int .i64 t294) := (blk_cell BK298.out 5).trans rfl
              have hcz26_6 : w18.cell? ⟨gb298, 6, none⟩ = some (.int .i64 t295) := (blk_cell BK298.out 6).trans rfl
              have hcz26_7 : w18.cell? ⟨gb298, 7, none⟩ = some (.int .i64 t296) := (blk_cell BK298.out 7).trans rfl
              have hfz26_0 := blk_frozen BK298.out 0
              have hfz26_1 := blk_frozen BK298.out 1
              have hfz26_2 := blk_frozen BK298.out 2
              have hfz26_3 := blk_frozen BK298.out 3
              have hfz26_4 := blk_frozen BK298.out 4
              have hfz26_5 := blk_frozen BK298.out 5
              have hfz26_6 := blk_frozen BK298.out 6
              have hfz26_7 := blk_frozen BK298.out 7
              go_wp2
              go_meet
              case rel => exact ⟨_, (true), (by first | rfl | (simp; done) | (simp [*]; done)), H', ⟨by first | omega | exact Nat.le_refl _⟩, ⟨by (with_reducible repeat (first | apply Kd.R_alloc | apply Kd.R_drewN | apply Kd.R_drew)); exact Kd.R_mono (Kd.R_far (p := ⟨gb312, 7, none⟩) (Kd.R_far (p := ⟨gb312, 6, none⟩) (Kd.R_far (p := ⟨gb312, 5, none⟩) (Kd.R_far (p := ⟨gb312, 4, none⟩) (Kd.R_far (p := ⟨gb312, 3, none⟩) (Kd.R_far (p := ⟨gb312, 2, none⟩) (Kd.R_far (p := ⟨gb312, 1, none⟩) (Kd.R_far (p := ⟨gb312, 0, none⟩) (Kd.R_types HO301.out BK312.out (by decide)) (fun _ hk => hk.2) (.int .i64 t303)) (fun _ hk => hk.2) (.int .i64 t304)) (fun _ hk => hk.2) (.int .i64 t305)) (fun _ hk => hk.2) (.int .i64 t306)) (fun _ hk => hk.2) (.int .i64 t307)) (fun _ hk => hk.2) (.int .i64 t308)) (fun _ hk => hk.2) (.int .i64 t309)) (fun _ hk => hk.2) (.int .i64 t310)) (fun _ hk => trivial)⟩, ⟨by (with_reducible repeat (first | refine blk_drewN ?_ _ | refine blk_drew ?_ | refine blk_alloc ?_ _)); refine blk_far ?_ NB298_312.out _; (with_reducible repeat (first | refine blk_drewN ?_ _ | refine blk_drew ?_ | refine blk_alloc ?_ _)); refine blk_far ?_ NB298_312.out _; (with_reducible repeat (first | refine blk_drewN ?_ _ | refine blk_drew ?_ | refine blk_alloc ?_ _)); refine blk_far ?_ NB298_312.out _; (with_reducible repeat (first | refine blk_drewN ?_ _ | refine blk_drew ?_ | refine blk_alloc ?_ _)); refine blk_far ?_ NB298_312.out _; (with_reducible repeat (first | refine blk_drewN ?_ _ | refine blk_drew ?_ | refine blk_alloc ?_ _)); refine blk_far ?_ NB298_312.out _; (with_reducible repeat (first | refine blk_drewN ?_ _ | refine blk_drew ?_ | refine blk_alloc ?_ _)); refine blk_far ?_ NB298_312.out _; (with_reducible repeat (first | refine blk_drewN ?_ _ | refine blk_drew ?_ | refine blk_alloc ?_ _)); refine blk_far ?_ NB298_312.out _; (with_reducible repeat (first | refine blk_drewN ?_ _ | refine blk_drew ?_ | refine blk_alloc ?_ _)); refine blk_far ?_ NB298_312.out _; (with_reducible repeat (first | refine blk_drewN ?_ _ | refine blk_drew ?_ | refine blk_alloc ?_ _)); exact BK298.out⟩, ⟨by (with_reducible repeat (first | refine blk_drewN ?_ _ | refine blk_drew ?_ | refine blk_alloc ?_ _)); refine blk_put (cs := #[.int .i64 t303, .int .i64 t304, .int .i64 t305, .int .i64 t306, .int .i64 t307, .int .i64 t308, .int .i64 t309, .int .i64 0]) ?_ 7 _ rfl; (with_reducible repeat (first | refine blk_drewN ?_ _ | refine blk_drew ?_ | refine blk_alloc ?_ _)); refine blk_put (cs := #[.int .i64 t303, .int .i64 t304, .int .i64 t305, .int .i64 t306, .int .i64 t307, .int .i64 t308, .int .i64 0, .int .i64 0]) ?_ 6 _ rfl; (with_reducible repeat (first | refine blk_drewN ?_ _ | refine blk_drew ?_ | refine blk_alloc ?_ _)); refine blk_put (cs := #[.int .i64 t303, .int .i64 t304, .int .i64 t305, .int .i64 t306, .int .i64 t307, .int .i64 0, .int .i64 0, .int .i64 0]) ?_ 5 _ rfl; (with_reducible repeat (first | refine blk_drewN ?_ _ | refine blk_drew ?_ | refine blk_alloc ?_ _)); refine blk_put (cs := #[.int .i64 t303, .int .i64 t304, .int .i64 t305, .int .i64 t306, .int .i64 0, .int .i64 0, .int .i64 0, .int .i64 0]) ?_ 4 _ rfl; (with_reducible repeat (first | refine blk_drewN ?_ _ | refine blk_drew ?_ | refine blk_alloc ?_ _)); refine blk_put (cs := #[.int .i64 t303, .int .i64 t304, .int .i64 t305, .int .i64 0, .int .i64 0, .int .i64 0, .int .i64 0, .int .i64 0]) ?_ 3 _ rfl; (with_reducible repeat (first | refine blk_drewN ?_ _ | refine blk_drew ?_ | refine blk_alloc ?_ _)); refine blk_put (cs := #[.int .i64 t303, .int .i64 t304, .int .i64 0, .int .i64 0, .int .i64 0, .int .i64 0, .int .i64 0, .int .i64 0]) ?_ 2 _ rfl; (with_reducible repeat (first | refine blk_drewN ?_ _ | refine blk_drew ?_ | refine blk_alloc ?_ _)); refine blk_put (cs := #[.int .i64 t303, .int .i64 0, .int .i64 0, .int .i64 0, .int .i64 0, .int .i64 0, .int .i64 0, .int .i64 0]) ?_ 1 _ rfl; (with_reducible repeat (first | refine blk_drewN ?_ _ | refine blk_drew ?_ | refine blk_alloc ?_ _)); refine blk_put (cs := #[.int .i64 0, .int .i64 0, .int .i64 0, .int .i64 0, .int .i64 0, .int .i64 0, .int .i64 0, .int .i64 0]) ?_ 0 _ rfl; (with_reducible repeat (first | refine blk_drewN ?_ _ | refine blk_drew ?_ | refine blk_alloc ?_ _)); exact BK312.out⟩, ⟨by repeat (first | (with_reducible first | exact HB.out | apply below_alloc | apply pw_below_drewN | apply below_drew1 | refine below_set ?_ GE298.out | refine below_set ?_ GE312.out) | exact HB.out)⟩⟩
            · rw [if_neg c23] at H
              have c23b0 : (!(t303 == t289) || (!(t304 == t290) || (!(t305 == t291) || (!(t306 == t292) || (!(t307 == t293) || (!(t308 == t294) || (!(t309 == t295) || (!(t310 == t296))))))))) = false := by simpa using c23
              clear c23
              have H' := Aside0.mk H
              clear H
              have hnb27 := NB312_298.out
              have hnc27 := NB298_312.out
              have hcz28_0 : w18.cell? ⟨gb312, 0, none⟩ = some (.int .i64 0) := (blk_cell BK312.out 0).trans rfl
              have hcz28_1 : w18.cell? ⟨gb312, 1, none⟩ = some (.int .i64 0) := (blk_cell BK312.out 1).trans rfl
              have hcz28_2 : w18.cell? ⟨gb312, 2, none⟩ = some (.int .i64 0) := (blk_cell BK312.out 2).trans rfl
              have hcz28_3 : w18.cell? ⟨gb312, 3, none⟩ = some (.int .i64 0) := (blk_cell BK312.out 3).trans rfl
              have hcz28_4 : w18.cell? ⟨gb312, 4, none⟩ = some (.int .i64 0) := (blk_cell BK312.out 4).trans rfl
              have hcz28_5 : w18.cell? ⟨gb312, 5, none⟩ = some (.int .i64 0) := (blk_cell BK312.out 5).trans rfl
              have hcz28_6 : w18.cell? ⟨gb312, 6, none⟩ = some (.int .i64 0) := (blk_cell BK312.out 6).trans rfl
              have hcz28_7 : w18.cell? ⟨gb312, 7, none⟩ = some (.int .i64 0) := (blk_cell BK312.out 7).trans rfl
              have hfz28_0 := blk_frozen BK312.out 0
              have hfz28_1 := blk_frozen BK312.out 1
              have hfz28_2 := blk_frozen BK312.out 2
              have hfz28_3 := blk_frozen BK312.out 3
              have hfz28_4 := blk_frozen BK312.out 4
              have hfz28_5 := blk_frozen BK312.out 5
              have hfz28_6 := blk_frozen BK312.out 6
              have hfz28_7 := blk_frozen BK312.out 7
              have hcz29_0 : w18.cell? ⟨gb298, 0, none⟩ = some (.int .i64 t289) := (blk_cell BK298.out 0).trans rfl
              have hcz29_1 : w18.cell? ⟨gb298, 1, none⟩ = some (.int .i64 t290) := (blk_cell BK298.out 1).trans rfl
              have hcz29_2 : w18.cell? ⟨gb298, 2, none⟩ = some (.int .i64 t291) := (blk_cell BK298.out 2).trans rfl
              have hcz29_3 : w18.cell? ⟨gb298, 3, none⟩ = some (.int .i64 t292) := (blk_cell BK298.out 3).trans rfl
              have hcz29_4 : w18.cell? ⟨gb298, 4, none⟩ = some (.int .i64 t293) := (blk_cell BK298.out 4).trans rfl
              have hcz29_5 : w18.cell? ⟨gb298, 5, none⟩ = some (.int .i64 t294) := (blk_cell BK298.out 5).trans rfl
              have hcz29_6 : w18.cell? ⟨gb298, 6, none⟩ = some (.int .i64 t295) := (blk_cell BK298.out 6).trans rfl
              have hcz29_7 : w18.cell? ⟨gb298, 7, none⟩ = some (.int .i64 t296) := (blk_cell BK298.out 7).trans rfl
              have hfz29_0 := blk_frozen BK298.out 0
              have hfz29_1 := blk_frozen BK298.out 1
              have hfz29_2 := blk_frozen BK298.out 2
              have hfz29_3 := blk_frozen BK298.out 3
              have hfz29_4 := blk_frozen BK298.out 4
              have hfz29_5 := blk_frozen BK298.out 5
              have hfz29_6 := blk_frozen BK298.out 6
              have hfz29_7 := blk_frozen BK298.out 7
              go_wp2
              go_meet
              case rel => exact ⟨_, (((t299.length : Int) != 256)), (by first | rfl | (simp; done) | (simp [*]; done)), H', ⟨by first | omega | exact Nat.le_refl _⟩, ⟨by (with_reducible repeat (first | apply Kd.R_alloc | apply Kd.R_drewN | apply Kd.R_drew)); exact Kd.R_mono (Kd.R_far (p := ⟨gb312, 7, none⟩) (Kd.R_far (p := ⟨gb312, 6, none⟩) (Kd.R_far (p := ⟨gb312, 5, none⟩) (Kd.R_far (p := ⟨gb312, 4, none⟩) (Kd.R_far (p := ⟨gb312, 3, none⟩) (Kd.R_far (p := ⟨gb312, 2, none⟩) (Kd.R_far (p := ⟨gb312, 1, none⟩) (Kd.R_far (p := ⟨gb312, 0, none⟩) (Kd.R_types HO301.out BK312.out (by decide)) (fun _ hk => hk.2) (.int .i64 t303)) (fun _ hk => hk.2) (.int .i64 t304)) (fun _ hk => hk.2) (.int .i64 t305)) (fun _ hk => hk.2) (.int .i64 t306)) (fun _ hk => hk.2) (.int .i64 t307)) (fun _ hk => hk.2) (.int .i64 t308)) (fun _ hk => hk.2) (.int .i64 t309)) (fun _ hk => hk.2) (.int .i64 t310)) (fun _ hk => trivial)⟩, ⟨by (with_reducible repeat (first | refine blk_drewN ?_ _ | refine blk_drew ?_ | refine blk_alloc ?_ _)); refine blk_far ?_ NB298_312.out _; (with_reducible repeat (first | refine blk_drewN ?_ _ | refine blk_drew ?_ | refine blk_alloc ?_ _)); refine blk_far ?_ NB298_312.out _; (with_reducible repeat (first | refine blk_drewN ?_ _ | refine blk_drew ?_ | refine blk_alloc ?_ _)); refine blk_far ?_ NB298_312.out _; (with_reducible repeat (first | refine blk_drewN ?_ _ | refine blk_drew ?_ | refine blk_alloc ?_ _)); refine blk_far ?_ NB298_312.out _; (with_reducible repeat (first | refine blk_drewN ?_ _ | refine blk_drew ?_ | refine blk_alloc ?_ _)); refine blk_far ?_ NB298_312.out _; (with_reducible repeat (first | refine blk_drewN ?_ _ | refine blk_drew ?_ | refine blk_alloc ?_ _)); refine blk_far ?_ NB298_312.out _; (with_reducible repeat (first | refine blk_drewN ?_ _ | refine blk_drew ?_ | refine blk_alloc ?_ _)); refine blk_far ?_ NB298_312.out _; (with_reducible repeat (first | refine blk_drewN ?_ _ | refine blk_drew ?_ | refine blk_alloc ?_ _)); refine blk_far ?_ NB298_312.out _; (with_reducible repeat (first | refine blk_drewN ?_ _ | refine blk_drew ?_ | refine blk_alloc ?_ _)); exact BK298.out⟩, ⟨by (with_reducible repeat (first | refine blk_drewN ?_ _ | refine blk_drew ?_ | refine blk_alloc ?_ _)); refine blk_put (cs := #[.int .i64 t303, .int .i64 t304, .int .i64 t305, .int .i64 t306, .int .i64 t307, .int .i64 t308, .int .i64 t309, .int .i64 0]) ?_ 7 _ rfl; (with_reducible repeat (first | refine blk_drewN ?_ _ | refine blk_drew ?_ | refine blk_alloc ?_ _)); refine blk_put (cs := #[.int .i64 t303, .int .i64 t304, .int .i64 t305, .int .i64 t306, .int .i64 t307, .int .i64 t308, .int .i64 0, .int .i64 0]) ?_ 6 _ rfl; (with_reducible repeat (first | refine blk_drewN ?_ _ | refine blk_drew ?_ | refine blk_alloc ?_ _)); refine blk_put (cs := #[.int .i64 t303, .int .i64 t304, .int .i64 t305, .int .i64 t306, .int .i64 t307, .int .i64 0, .int .i64 0, .int .i64 0]) ?_ 5 _ rfl; (with_reducible repeat (first | refine blk_drewN ?_ _ | refine blk_drew ?_ | refine blk_alloc ?_ _)); refine blk_put (cs := #[.int .i64 t303, .int .i64 t304, .int .i64 t305, .int .i64 t306, .int .i64 0, .int .i64 0, .int .i64 0, .int .i64 0]) ?_ 4 _ rfl; (with_reducible repeat (first | refine blk_drewN ?_ _ | refine blk_drew ?_ | refine blk_alloc ?_ _)); refine blk_put (cs := #[.int .i64 t303, .int .i64 t304, .int .i64 t305, .int .i64 0, .int .i64 0, .int .i64 0, .int .i64 0, .int .i64 0]) ?_ 3 _ rfl; (with_reducible repeat (first | refine blk_drewN ?_ _ | refine blk_drew ?_ | refine blk_alloc ?_ _)); refine blk_put (cs := #[.int .i64 t303, .int .i64 t304, .int .i64 0, .int .i64 0, .int .i64 0, .int .i64 0, .int .i64 0, .int .i64 0]) ?_ 2 _ rfl; (with_reducible repeat (first | refine blk_drewN ?_ _ | refine blk_drew ?_ | refine blk_alloc ?_ _)); refine blk_put (cs := #[.int .i64 t303, .int .i64 0, .int .i64 0, .int .i64 0, .int .i64 0, .int .i64 0, .int .i64 0, .int .i64 0]) ?_ 1 _ rfl; (with_reducible repeat (first | refine blk_drewN ?_ _ | refine blk_drew ?_ | refine blk_alloc ?_ _)); refine blk_put (cs := #[.int .i64 0, .int .i64 0, .int .i64 0, .int .i64 0, .int .i64 0, .int .i64 0, .int .i64 0, .int .i64 0]) ?_ 0 _ rfl; (with_reducible repeat (first | refine blk_drewN ?_ _ | refine blk_drew ?_ | refine blk_alloc ?_ _)); exact BK312.out⟩, ⟨by repeat (first | (with_reducible first | exact HB.out | apply below_alloc | apply pw_below_drewN | apply below_drew1 | refine below_set ?_ GE298.out | refine below_set ?_ GE312.out) | exact HB.out)⟩⟩
          · rw [if_neg c22] at H
            have c22b0 : (t311 == 0) = false := beq_eq_false_iff_ne.mpr c22
            have c22b1 : (t311 != 0) = true := bne_iff_ne.mpr c22
            have H' := Aside0.mk H
            clear H
            go_wp2
            go_meet
            case rel => exact ⟨_, (true), (by first | rfl | (simp; done) | (simp [*]; done)), H', ⟨by first | omega | exact Nat.le_refl _⟩, ⟨by (with_reducible repeat (first | apply Kd.R_alloc | apply Kd.R_drewN | apply Kd.R_drew)); exact Kd.R_mono (Kd.R_far (p := ⟨gb312, 7, none⟩) (Kd.R_far (p := ⟨gb312, 6, none⟩) (Kd.R_far (p := ⟨gb312, 5, none⟩) (Kd.R_far (p := ⟨gb312, 4, none⟩) (Kd.R_far (p := ⟨gb312, 3, none⟩) (Kd.R_far (p := ⟨gb312, 2, none⟩) (Kd.R_far (p := ⟨gb312, 1, none⟩) (Kd.R_far (p := ⟨gb312, 0, none⟩) (Kd.R_types HO301.out BK312.out (by decide)) (fun _ hk => hk.2) (.int .i64 t303)) (fun _ hk => hk.2) (.int .i64 t304)) (fun _ hk => hk.2) (.int .i64 t305)) (fun _ hk => hk.2) (.int .i64 t306)) (fun _ hk => hk.2) (.int .i64 t307)) (fun _ hk => hk.2) (.int .i64 t308)) (fun _ hk => hk.2) (.int .i64 t309)) (fun _ hk => hk.2) (.int .i64 t310)) (fun _ hk => trivial)⟩, ⟨by (with_reducible repeat (first | refine blk_drewN ?_ _ | refine blk_drew ?_ | refine blk_alloc ?_ _)); refine blk_far ?_ NB298_312.out _; (with_reducible repeat (first | refine blk_drewN ?_ _ | refine blk_drew ?_ | refine blk_alloc ?_ _)); refine blk_far ?_ NB298_312.out _; (with_reducible repeat (first | refine blk_drewN ?_ _ | refine blk_drew ?_ | refine blk_alloc ?_ _)); refine blk_far ?_ NB298_312.out _; (with_reducible repeat (first | refine blk_drewN ?_ _ | refine blk_drew ?_ | refine blk_alloc ?_ _)); refine blk_far ?_ NB298_312.out _; (with_reducible repeat (first | refine blk_drewN ?_ _ | refine blk_drew ?_ | refine blk_alloc ?_ _)); refine blk_far ?_ NB298_312.out _; (with_reducible repeat (first | refine blk_drewN ?_ _ | refine blk_drew ?_ | refine blk_alloc ?_ _)); refine blk_far ?_ NB298_312.out _; (with_reducible repeat (first | refine blk_drewN ?_ _ | refine blk_drew ?_ | refine blk_alloc ?_ _)); refine blk_far ?_ NB298_312.out _; (with_reducible repeat (first | refine blk_drewN ?_ _ | refine blk_drew ?_ | refine blk_alloc ?_ _)); refine blk_far ?_ NB298_312.out _; (with_reducible repeat (first | refine blk_drewN ?_ _ | refine blk_drew ?_ | refine blk_alloc ?_ _)); exact BK298.out⟩, ⟨by (with_reducible repeat (first | refine blk_drewN ?_ _ | refine blk_drew ?_ | refine blk_alloc ?_ _)); refine blk_put (cs := #[.int .i64 t303, .int .i64 t304, .int .i64 t305, .int .i64 t306, .int .i64 t307, .int .i64 t308, .int .i64 t309, .int .i64 0]) ?_ 7 _ rfl; (with_reducible repeat (first | refine blk_drewN ?_ _ | refine blk_drew ?_ | refine blk_alloc ?_ _)); refine blk_put (cs := #[.int .i64 t303, .int .i64 t304, .int .i64 t305, .int .i64 t306, .int .i64 t307, .int .i64 t308, .int .i64 0, .int .i64 0]) ?_ 6 _ rfl; (with_reducible repeat (first | refine blk_drewN ?_ _ | refine blk_drew ?_ | refine blk_alloc ?_ _)); refine blk_put (cs := #[.int .i64 t303, .int .i64 t304, .int .i64 t305, .int .i64 t306, .int .i64 t307, .int .i64 0, .int .i64 0, .int .i64 0]) ?_ 5 _ rfl; (with_reducible repeat (first | refine blk_drewN ?_ _ | refine blk_drew ?_ | refine blk_alloc ?_ _)); refine blk_put (cs := #[.int .i64 t303, .int .i64 t304, .int .i64 t305, .int .i64 t306, .int .i64 0, .int .i64 0, .int .i64 0, .int .i64 0]) ?_ 4 _ rfl; (with_reducible repeat (first | refine blk_drewN ?_ _ | refine blk_drew ?_ | refine blk_alloc ?_ _)); refine blk_put (cs := #[.int .i64 t303, .int .i64 t304, .int .i64 t305, .int .i64 0, .int .i64 0, .int .i64 0, .int .i64 0, .int .i64 0]) ?_ 3 _ rfl; (with_reducible repeat (first | refine blk_drewN ?_ _ | refine blk_drew ?_ | refine blk_alloc ?_ _)); refine blk_put (cs := #[.int .i64 t303, .int .i64 t304, .int .i64 0, .int .i64 0, .int .i64 0, .int .i64 0, .int .i64 0, .int .i64 0]) ?_ 2 _ rfl; (with_reducible repeat (first | refine blk_drewN ?_ _ | refine blk_drew ?_ | refine blk_alloc ?_ _)); refine blk_put (cs := #[.int .i64 t303, .int .i64 0, .int .i64 0, .int .i64 0, .int .i64 0, .int .i64 0, .int .i64 0, .int .i64 0]) ?_ 1 _ rfl; (with_reducible repeat (first | refine blk_drewN ?_ _ | refine blk_drew ?_ | refine blk_alloc ?_ _)); refine blk_put (cs := #[.int .i64 0, .int .i64 0, .int .i64 0, .int .i64 0, .int .i64 0, .int .i64 0, .int .i64 0, .int .i64 0]) ?_ 0 _ rfl; (with_reducible repeat (first | refine blk_drewN ?_ _ | refine blk_drew ?_ | refine blk_alloc ?_ _)); exact BK312.out⟩, ⟨by repeat (first | (with_reducible first | exact HB.out | apply below_alloc | apply pw_below_drewN | apply below_drew1 | refine below_set ?_ GE298.out | refine below_set ?_ GE312.out) | exact HB.out)⟩⟩
        · rw [if_neg c21] at H
          have c21b0 : (t302 == 0) = false := beq_eq_false_iff_ne.mpr c21
          have c21b1 : (t302 != 0) = true := bne_iff_ne.mpr c21
          (first | rw [c21b0] | (simp only [i64_w, i32_w]; rw [c21b0]) | skip)
          have H' := Aside0.mk H
          clear H
          go_wp2
          go_meet
          case rel => exact ⟨_, (true), (by first | rfl | (simp; done) | (simp [*]; done)), H', ⟨by first | omega | exact Nat.le_refl _⟩, ⟨by (with_reducible repeat (first | apply Kd.R_alloc | apply Kd.R_drewN | apply Kd.R_drew)); exact Kd.R_mono (Kd.R_far (p := ⟨gb312, 7, none⟩) (Kd.R_far (p := ⟨gb312, 6, none⟩) (Kd.R_far (p := ⟨gb312, 5, none⟩) (Kd.R_far (p := ⟨gb312, 4, none⟩) (Kd.R_far (p := ⟨gb312, 3, none⟩) (Kd.R_far (p := ⟨gb312, 2, none⟩) (Kd.R_far (p := ⟨gb312, 1, none⟩) (Kd.R_far (p := ⟨gb312, 0, none⟩) (Kd.R_types HO301.out BK312.out (by decide)) (fun _ hk => hk.2) (.int .i64 t303)) (fun _ hk => hk.2) (.int .i64 t304)) (fun _ hk => hk.2) (.int .i64 t305)) (fun _ hk => hk.2) (.int .i64 t306)) (fun _ hk => hk.2) (.int .i64 t307)) (fun _ hk => hk.2) (.int .i64 t308)) (fun _ hk => hk.2) (.int .i64 t309)) (fun _ hk => hk.2) (.int .i64 t310)) (fun _ hk => trivial)⟩, ⟨by (with_reducible repeat (first | refine blk_drewN ?_ _ | refine blk_drew ?_ | refine blk_alloc ?_ _)); refine blk_far ?_ NB298_312.out _; (with_reducible repeat (first | refine blk_drewN ?_ _ | refine blk_drew ?_ | refine blk_alloc ?_ _)); refine blk_far ?_ NB298_312.out _; (with_reducible repeat (first | refine blk_drewN ?_ _ | refine blk_drew ?_ | refine blk_alloc ?_ _)); refine blk_far ?_ NB298_312.out _; (with_reducible repeat (first | refine blk_drewN ?_ _ | refine blk_drew ?_ | refine blk_alloc ?_ _)); refine blk_far ?_ NB298_312.out _; (with_reducible repeat (first | refine blk_drewN ?_ _ | refine blk_drew ?_ | refine blk_alloc ?_ _)); refine blk_far ?_ NB298_312.out _; (with_reducible repeat (first | refine blk_drewN ?_ _ | refine blk_drew ?_ | refine blk_alloc ?_ _)); refine blk_far ?_ NB298_312.out _; (with_reducible repeat (first | refine blk_drewN ?_ _ | refine blk_drew ?_ | refine blk_alloc ?_ _)); refine blk_far ?_ NB298_312.out _; (with_reducible repeat (first | refine blk_drewN ?_ _ | refine blk_drew ?_ | refine blk_alloc ?_ _)); refine blk_far ?_ NB298_312.out _; (with_reducible repeat (first | refine blk_drewN ?_ _ | refine blk_drew ?_ | refine blk_alloc ?_ _)); exact BK298.out⟩, ⟨by (with_reducible repeat (first | refine blk_drewN ?_ _ | refine blk_drew ?_ | refine blk_alloc ?_ _)); refine blk_put (cs := #[.int .i64 t303, .int .i64 t304, .int .i64 t305, .int .i64 t306, .int .i64 t307, .int .i64 t308, .int .i64 t309, .int .i64 0]) ?_ 7 _ rfl; (with_reducible repeat (first | refine blk_drewN ?_ _ | refine blk_drew ?_ | refine blk_alloc ?_ _)); refine blk_put (cs := #[.int .i64 t303, .int .i64 t304, .int .i64 t305, .int .i64 t306, .int .i64 t307, .int .i64 t308, .int .i64 0, .int .i64 0]) ?_ 6 _ rfl; (with_reducible repeat (first | refine blk_drewN ?_ _ | refine blk_drew ?_ | refine blk_alloc ?_ _)); refine blk_put (cs := #[.int .i64 t303, .int .i64 t304, .int .i64 t305, .int .i64 t306, .int .i64 t307, .int .i64 0, .int .i64 0, .int .i64 0]) ?_ 5 _ rfl; (with_reducible repeat (first | refine blk_drewN ?_ _ | refine blk_drew ?_ | refine blk_alloc ?_ _)); refine blk_put (cs := #[.int .i64 t303, .int .i64 t304, .int .i64 t305, .int .i64 t306, .int .i64 0, .int .i64 0, .int .i64 0, .int .i64 0]) ?_ 4 _ rfl; (with_reducible repeat (first | refine blk_drewN ?_ _ | refine blk_drew ?_ | refine blk_alloc ?_ _)); refine blk_put (cs := #[.int .i64 t303, .int .i64 t304, .int .i64 t305, .int .i64 0, .int .i64 0, .int .i64 0, .int .i64 0, .int .i64 0]) ?_ 3 _ rfl; (with_reducible repeat (first | refine blk_drewN ?_ _ | refine blk_drew ?_ | refine blk_alloc ?_ _)); refine blk_put (cs := #[.int .i64 t303, .int .i64 t304, .int .i64 0, .int .i64 0, .int .i64 0, .int .i64 0, .int .i64 0, .int .i64 0]) ?_ 2 _ rfl; (with_reducible repeat (first | refine blk_drewN ?_ _ | refine blk_drew ?_ | refine blk_alloc ?_ _)); refine blk_put (cs := #[.int .i64 t303, .int .i64 0, .int .i64 0, .int .i64 0, .int .i64 0, .int .i64 0, .int .i64 0, .int .i64 0]) ?_ 1 _ rfl; (with_reducible repeat (first | refine blk_drewN ?_ _ | refine blk_drew ?_ | refine blk_alloc ?_ _)); refine blk_put (cs := #[.int .i64 0, .int .i64 0, .int .i64 0, .int .i64 0, .int .i64 0, .int .i64 0, .int .i64 0, .int .i64 0]) ?_ 0 _ rfl; (with_reducible repeat (first | refine blk_drewN ?_ _ | refine blk_drew ?_ | refine blk_alloc ?_ _)); exact BK312.out⟩, ⟨by repeat (first | (with_reducible first | exact HB.out | apply below_alloc | apply pw_below_drewN | apply below_drew1 | refine below_set ?_ GE298.out | refine below_set ?_ GE312.out) | exact HB.out)⟩⟩
      case rest =>
        clear HC10
        try clear c1
        try clear c2
        try clear p2
        try clear c5
        try clear c7
        try clear c8
        try clear c8b0
        try clear c8b1
        try clear c9
        try clear c10
        try clear c17
        try clear c19
        try clear c21
        try clear c21b0
        try clear c21b1
        try clear c22
        try clear c22b0
        try clear c22b1
        try clear c23
        try clear c23b0
        try clear c24
        try clear c27
        try clear hcz14_0
        try clear hcz14_1
        try clear hcz14_2
        try clear hcz14_3
        try clear hcz14_4
        try clear hcz14_5
        try clear hcz14_6
        try clear hcz14_7
        try clear hcz20_0
        try clear hcz20_1
        try clear hcz20_2
        try clear hcz20_3
        try clear hcz20_4
        try clear hcz20_5
        try clear hcz20_6
        try clear hcz20_7
        try clear hcz25_0
        try clear hcz25_1
        try clear hcz25_2
        try clear hcz25_3
        try clear hcz25_4
        try clear hcz25_5
        try clear hcz25_6
        try clear hcz25_7
        try clear hcz26_0
        try clear hcz26_1
        try clear hcz26_2
        try clear hcz26_3
        try clear hcz26_4
        try clear hcz26_5
        try clear hcz26_6
        try clear hcz26_7
        try clear hcz28_0
        try clear hcz28_1
        try clear hcz28_2
        try clear hcz28_3
        try clear hcz28_4
        try clear hcz28_5
        try clear hcz28_6
        try clear hcz28_7
        try clear hcz29_0
        try clear hcz29_1
        try clear hcz29_2
        try clear hcz29_3
        try clear hcz29_4
        try clear hcz29_5
        try clear hcz29_6
        try clear hcz29_7
        try clear hfz14_0
        try clear hfz14_1
        try clear hfz14_2
        try clear hfz14_3
        try clear hfz14_4
        try clear hfz14_5
        try clear hfz14_6
        try clear hfz14_7
        try clear hfz20_0
        try clear hfz20_1
        try clear hfz20_2
        try clear hfz20_3
        try clear hfz20_4
        try clear hfz20_5
        try clear hfz20_6
        try clear hfz20_7
        try clear hfz25_0
        try clear hfz25_1
        try clear hfz25_2
        try clear hfz25_3
        try clear hfz25_4
        try clear hfz25_5
        try clear hfz25_6
        try clear hfz25_7
        try clear hfz26_0
        try clear hfz26_1
        try clear hfz26_2
        try clear hfz26_3
        try clear hfz26_4
        try clear hfz26_5
        try clear hfz26_6
        try clear hfz26_7
        try clear hfz28_0
        try clear hfz28_1
        try clear hfz28_2
        try clear hfz28_3
        try clear hfz28_4
        try clear hfz28_5
        try clear hfz28_6
        try clear hfz28_7
        try clear hfz29_0
        try clear hfz29_1
        try clear hfz29_2
        try clear hfz29_3
        try clear hfz29_4
        try clear hfz29_5
        try clear hfz29_6
        try clear hfz29_7
        obtain ⟨kq, x62_9, rfl, HA, HJ9, HO_9, BK298, BK312, HB⟩ := hcut
        cases kq with
        | zero => exact absurd HA.out (by simp [undercroftlaw06_GeomBack.j0])
        | succ kj9 =>
          have H := HA.out
          clear HA
          simp only [undercroftlaw06_GeomBack.j0] at H
          by_cases c30 : x62_9 = true
          · subst c30
            have H1 : (some false) = some r := by rw [if_pos rfl] at H; exact H
            clear H
            have H := H1
            clear H1
            exact absurd (Option.some.inj H) (by rw [hT]; decide)
          · replace c30 := Bool.eq_false_iff.mpr c30
            subst c30
            have H1 : (undercroftlaw06_GeomBack.l0 kj9 a2 t299 (wrap64 (Int.tmod (IntKind.u64.wrap (a1)) 2048)) false 0 t289 t290 t291 t292 t293 t294 t295 t296) = some r := by rw [if_neg (show ¬ (false = true) by decide)] at H; exact H
            clear H
            have H := H1
            clear H1
            have H' := Aside0.mk H
            clear H
            go_wp2
            go_loopg [14, 15] kj9 (fun kq v14 v15 w' => ∃ (x9_2 : List Int) (x14_2 : Bool) (x15_2 : Int), v14 = .bool x14_2 ∧ v15 = .int .i64 x15_2 ∧ Aside0 (undercroftlaw06_GeomBack.l0 kq a2 x9_2 (wrap64 (Int.tmod (IntKind.u64.wrap (a1)) 2048)) x14_2 x15_2 t289 t290 t291 t292 t293 t294 t295 t296 = some r) ∧ Aside0 (kq ≤ kj9) ∧ Aside0 (Kd.R (Kd.int .u8) 5 w' w.heap.size (fun _ => True) (.slice Ao16 t299.length co16) x9_2) ∧ Aside0 (w'.heap[gb298]? = some (.cells #[.int .i64 t289, .int .i64 t290, .int .i64 t291, .int .i64 t292, .int .i64 t293, .int .i64 t294, .int .i64 t295, .int .i64 t296] 24 (0, 0))) ∧ Aside0 (w'.heap[gb312]? = some (.cells #[.int .i64 t303, .int .i64 t304, .int .i64 t305, .int .i64 t306, .int .i64 t307, .int .i64 t308, .int .i64 t309, .int .i64 t310] 24 (0, 0))) ∧ Aside0 (Below w.heap.size w w'))
            case atStart => exact ⟨(t299), (false), (0), (by first | rfl | (simp; done) | (simp [*]; done)), (by first | rfl | (simp; done) | (simp [*]; done)), H', ⟨Nat.le_refl _⟩, ⟨by (with_reducible repeat (first | apply Kd.R_alloc | apply Kd.R_drewN | apply Kd.R_drew)); exact HO_9.out⟩, ⟨by (with_reducible repeat (first | refine blk_drewN ?_ _ | refine blk_drew ?_ | refine blk_alloc ?_ _)); exact BK298.out⟩, ⟨by (with_reducible repeat (first | refine blk_drewN ?_ _ | refine blk_drew ?_ | refine blk_alloc ?_ _)); exact BK312.out⟩, ⟨by repeat (first | (with_reducible first | exact HB.out | apply below_alloc | apply pw_below_drewN | apply below_drew1 | refine below_set ?_ GE298.out | refine below_set ?_ GE312.out) | exact HB.out)⟩⟩
            case round =>
              clear H'
              try clear c1
              try clear c2
              try clear p2
              try clear c3
              try clear c5
              try clear p6
              try clear c7
              try clear c8
              try clear c8b0
              try clear c8b1
              try clear c9
              try clear c10
              try clear c17
              try clear c19
              try clear c21
              try clear c21b0
              try clear c21b1
              try clear c22
              try clear c22b0
              try clear c22b1
              try clear c23
              try clear c23b0
              try clear c24
              try clear c27
              try clear c30
              try clear hcz14_0
              try clear hcz14_1
              try clear hcz14_2
              try clear hcz14_3
              try clear hcz14_4
              try clear hcz14_5
              try clear hcz14_6
              try clear hcz14_7
              try clear hcz20_0
              try clear hcz20_1
              try clear hcz20_2
              try clear hcz20_3
              try clear hcz20_4
              try clear hcz20_5
              try clear hcz20_6
              try clear hcz20_7
              try clear hcz25_0
              try clear hcz25_1
              try clear hcz25_2
              try clear hcz25_3
              try clear hcz25_4
              try clear hcz25_5
              try clear hcz25_6
              try clear hcz25_7
              try clear hcz26_0
              try clear hcz26_1
              try clear hcz26_2
              try clear hcz26_3
              try clear hcz26_4
              try clear hcz26_5
              try clear hcz26_6
              try clear hcz26_7
              try clear hcz28_0
              try clear hcz28_1
              try clear hcz28_2
              try clear hcz28_3
              try clear hcz28_4
              try clear hcz28_5
              try clear hcz28_6
              try clear hcz28_7
              try clear hcz29_0
              try clear hcz29_1
              try clear hcz29_2
              try clear hcz29_3
              try clear hcz29_4
              try clear hcz29_5
              try clear hcz29_6
              try clear hcz29_7
              try clear hfz14_0
              try clear hfz14_1
              try clear hfz14_2
              try clear hfz14_3
              try clear hfz14_4
              try clear hfz14_5
              try clear hfz14_6
              try clear hfz14_7
              try clear hfz20_0
              try clear hfz20_1
              try clear hfz20_2
              try clear hfz20_3
              try clear hfz20_4
              try clear hfz20_5
              try clear hfz20_6
              try clear hfz20_7
              try clear hfz25_0
              try clear hfz25_1
              try clear hfz25_2
              try clear hfz25_3
              try clear hfz25_4
              try clear hfz25_5
              try clear hfz25_6
              try clear hfz25_7
              try clear hfz26_0
              try clear hfz26_1
              try clear hfz26_2
              try clear hfz26_3
              try clear hfz26_4
              try clear hfz26_5
              try clear hfz26_6
              try clear hfz26_7
              try clear hfz28_0
              try clear hfz28_1
              try clear hfz28_2
              try clear hfz28_3
              try clear hfz28_4
              try clear hfz28_5
              try clear hfz28_6
              try clear hfz28_7
              try clear hfz29_0
              try clear hfz29_1
              try clear hfz29_2
              try clear hfz29_3
              try clear hfz29_4
              try clear hfz29_5
              try clear hfz29_6
              try clear hfz29_7
              try clear p2
              obtain ⟨x9_2, x14_2, x15_2, rfl, rfl, HA, HK2, HO_9, BK298, BK312, HB⟩ := hrel
              have hl9_2 := (Kd.R_reads' HO_9.out).1
              rw [hl9_2] at HO_9
              (try simp only [hl9_2])
              (try simp only [hl9_2] at BK298)
              (try simp only [hl9_2] at BK312)
              cases gk with
              | zero => exact absurd HA.out (by simp [undercroftlaw06_GeomBack.l0])
              | succ k2 =>
                have H := HA.out
                clear HA
                simp only [undercroftlaw06_GeomBack.l0] at H
                by_cases c31 : x15_2 < 32
                · rw [if_pos c31] at H
                  have c31b0 : decide (x15_2 < 32) = true := decide_eq_true c31
                  clear c31
                  by_cases c32 : 0 ≤ x15_2
                  · rw [if_pos c32] at H
                    have c32b0 := eq_true c32
                    have c32b1 : decide (0 ≤ x15_2) = true := decide_eq_true c32
                    clear c32
                    obtain ⟨ji33, hji33⟩ : ∃ j_ : Int, (shr .u32 a2 x15_2) = j_ := ⟨_, rfl⟩
                    replace H : (if (Go.bits .and .u32 (ji33) 1) = 1 then (if (wrap64 ((wrap64 (Int.tmod (IntKind.u64.wrap (a1)) 2048)) + x15_2)) < 2048 then (if 0 ≤ (wrap64 (Int.tdiv (wrap64 ((wrap64 (Int.tmod (IntKind.u64.wrap (a1)) 2048)) + x15_2)) 8)) then (if (wrap64 (Int.tdiv (wrap64 ((wrap64 (Int.tmod (IntKind.u64.wrap (a1)) 2048)) + x15_2)) 8)) < (x9_2.length : Int) then (if 0 ≤ (Int.tmod (wrap64 ((wrap64 (Int.tmod (IntKind.u64.wrap (a1)) 2048)) + x15_2)) 8) then (undercroftlaw06_GeomBack.l0 k2 a2 (x9_2.set ((wrap64 (Int.tdiv (wrap64 ((wrap64 (Int.tmod (IntKind.u64.wrap (a1)) 2048)) + x15_2)) 8)) : Int).toNat (Go.bits .xor .u8 (rd x9_2 (wrap64 (Int.tdiv (wrap64 ((wrap64 (Int.tmod (IntKind.u64.wrap (a1)) 2048)) + x15_2)) 8))) (shl .u8 1 (Int.tmod (wrap64 ((wrap64 (Int.tmod (IntKind.u64.wrap (a1)) 2048)) + x15_2)) 8)))) (wrap64 (Int.tmod (IntKind.u64.wrap (a1)) 2048)) true (wrap64 (x15_2 + 1)) t289 t290 t291 t292 t293 t294 t295 t296) else (none)) else (none)) else (none)) else (undercroftlaw06_GeomBack.l0 k2 a2 x9_2 (wrap64 (Int.tmod (IntKind.u64.wrap (a1)) 2048)) x14_2 (wrap64 (x15_2 + 1)) t289 t290 t291 t292 t293 t294 t295 t296)) else (undercroftlaw06_GeomBack.l0 k2 a2 x9_2 (wrap64 (Int.tmod (IntKind.u64.wrap (a1)) 2048)) x14_2 (wrap64 (x15_2 + 1)) t289 t290 t291 t292 t293 t294 t295 t296)) = some r := by first | (rw [hji33] at H; exact H) | (simp only [hji33] at H ⊢; exact H)
                    have hji33_ : (a2 / 2 ^ min x15_2.toNat 32) = ji33 := hji33
                    have hji33z : x15_2 ≤ 32 → (a2 / 2 ^ x15_2.toNat) = ji33 := shr_small hji33
                    by_cases c34 : (Go.bits .and .u32 (ji33) 1) = 1
                    · rw [if_pos c34] at H
                      have c34b0 : ((Go.bits .and .u32 (ji33) 1) == 1) = true := beq_iff_eq.mpr c34
                      have c34b1 : ((Go.bits .and .u32 (ji33) 1) != 1) = false := bne_eq_false_iff_eq.mpr c34
                      clear c34
                      by_cases c35 : (wrap64 ((wrap64 (Int.tmod (IntKind.u64.wrap (a1)) 2048)) + x15_2)) < 2048
                      · rw [if_pos c35] at H
                        have c35b0 : decide ((wrap64 ((wrap64 (Int.tmod (IntKind.u64.wrap (a1)) 2048)) + x15_2)) < 2048) = true := decide_eq_true c35
                        clear c35
                        obtain ⟨ji36, hji36⟩ : ∃ j_ : Int, (wrap64 (Int.tdiv (wrap64 ((wrap64 (Int.tmod (IntKind.u64.wrap (a1)) 2048)) + x15_2)) 8)) = j_ := ⟨_, rfl⟩
                        replace H : (if 0 ≤ (ji36) then (if (ji36) < (x9_2.length : Int) then (if 0 ≤ (Int.tmod (wrap64 ((wrap64 (Int.tmod (IntKind.u64.wrap (a1)) 2048)) + x15_2)) 8) then (undercroftlaw06_GeomBack.l0 k2 a2 (x9_2.set ((ji36) : Int).toNat (Go.bits .xor .u8 (rd x9_2 (ji36)) (shl .u8 1 (Int.tmod (wrap64 ((wrap64 (Int.tmod (IntKind.u64.wrap (a1)) 2048)) + x15_2)) 8)))) (wrap64 (Int.tmod (IntKind.u64.wrap (a1)) 2048)) true (wrap64 (x15_2 + 1)) t289 t290 t291 t292 t293 t294 t295 t296) else (none)) else (none)) else (none)) = some r := by first | (rw [hji36] at H; exact H) | (simp only [hji36] at H ⊢; exact H)
                        have hji36w : (IntKind.i64.wrap (Int.tdiv (wrap64 ((wrap64 (Int.tmod (IntKind.u64.wrap (a1)) 2048)) + x15_2)) 8)) = ji36 := (i64_w _).trans hji36
                        by_cases c37 : 0 ≤ (ji36)
                        · rw [if_pos c37] at H
                          have c37b0 : decide (0 ≤ (ji36)) = true := decide_eq_true c37
                          clear c37
                          by_cases c38 : (ji36) < (x9_2.length : Int)
                          · rw [if_pos c38] at H
                            have c38b0 : decide ((ji36) < (x9_2.length : Int)) = true := decide_eq_true c38
                            clear c38
                            obtain ⟨ji39, hji39⟩ : ∃ j_ : Int, (Int.tmod (wrap64 ((wrap64 (Int.tmod (IntKind.u64.wrap (a1)) 2048)) + x15_2)) 8) = j_ := ⟨_, rfl⟩
                            replace H : (if 0 ≤ (ji39) then (undercroftlaw06_GeomBack.l0 k2 a2 (x9_2.set ((ji36) : Int).toNat (Go.bits .xor .u8 (rd x9_2 (ji36)) (shl .u8 1 (ji39)))) (wrap64 (Int.tmod (IntKind.u64.wrap (a1)) 2048)) true (wrap64 (x15_2 + 1)) t289 t290 t291 t292 t293 t294 t295 t296) else (none)) = some r := by first | (rw [hji39] at H; exact H) | (simp only [hji39] at H ⊢; exact H)
                            by_cases c40 : 0 ≤ (ji39)
                            · rw [if_pos c40] at H
                              have c40b0 := eq_true c40
                              have c40b1 : decide (0 ≤ (ji39)) = true := decide_eq_true c40
                              clear c40
                              obtain ⟨ji41, hji41⟩ : ∃ j_ : Int, (shl .u8 1 (ji39)) = j_ := ⟨_, rfl⟩
                              replace H : (undercroftlaw06_GeomBack.l0 k2 a2 (x9_2.set ((ji36) : Int).toNat (Go.bits .xor .u8 (rd x9_2 (ji36)) (ji41))) (wrap64 (Int.tmod (IntKind.u64.wrap (a1)) 2048)) true (wrap64 (x15_2 + 1)) t289 t290 t291 t292 t293 t294 t295 t296) = some r := by first | (rw [hji41] at H; exact H) | (simp only [hji41] at H ⊢; exact H)
                              have hji41_ : (IntKind.u8.wrap (1 * 2 ^ min (ji39).toNat 8)) = ji41 := hji41
                              have hji41z : (ji39) ≤ 8 → (IntKind.u8.wrap (1 * 2 ^ (ji39).toNat)) = ji41 := shl_small hji41
                              have hji41u : (IntKind.u8.wrap (2 ^ min (ji39).toNat 8)) = ji41 := by have h_ := hji41_; rw [Int.one_mul] at h_; exact h_
                              have hji41v : (ji39) ≤ 8 → (IntKind.u8.wrap (2 ^ (ji39).toNat)) = ji41 := fun hle_ => by have h_ := hji41z hle_; rw [Int.one_mul] at h_; exact h_
                              obtain ⟨y314, hy314⟩ : ∃ y_ : List Int, y_ = (x9_2.set ((ji36) : Int).toNat (Go.bits .xor .u8 (rd x9_2 (ji36)) (ji41))) := ⟨_, rfl⟩
                              replace H : (undercroftlaw06_GeomBack.l0 k2 a2 y314 (wrap64 (Int.tmod (IntKind.u64.wrap (a1)) 2048)) true (wrap64 (x15_2 + 1)) t289 t290 t291 t292 t293 t294 t295 t296) = some r := by first | (rw [hy314]; with_reducible exact H) | (have H2_ := (Option.bind_some _ _).symm.trans H; rw [hy314]; with_reducible exact H2_) | (have H2_ := (Option.bind_some _ _).symm.trans H; with_reducible exact H2_) | with_reducible exact H | (rw [hy314]; exact H) | exact H
                              have Ny314 := Aside0.mk hy314
                              clear hy314
                              have H' := Aside0.mk H
                              clear H
                              try go_wp2
                              have n0_ := Aside0.mk (Kd.R_drew HO_9.out)
                              have n1_ := Aside0.mk (blk_drew BK298.out)
                              have n2_ := Aside0.mk (blk_drew BK312.out)
                              have n3_ := Aside0.mk (below_drew1 HB.out)
                              clear HO_9
                              clear BK298
                              clear BK312
                              clear HB
                              have HO_9 := n0_
                              have BK298 := n1_
                              have BK312 := n2_
                              have HB := n3_
                              clear n0_ n1_ n2_ n3_
                              have p313 : 0 ≤ ((ji36) : Int) := of_decide_eq_true (by first | (with_reducible assumption) | assumption)
                              have q313 : (ji36) < (x9_2.length : Int) := of_decide_eq_true (by first | (with_reducible assumption) | assumption)
                              obtain ⟨ad313, e313, hx313_0⟩ := Kd.at_int (Kd.R_reads' HO_9.out).2.2 (ji36) p313 q313
                              cases e313
                              replace p313 := eq_true p313
                              replace q313 := eq_true q313
                              have p42 : 0 ≤ ((ji36) : Int) := of_decide_eq_true (by first | (with_reducible assumption) | assumption)
                              have q42 : ((ji36) : Int) < ((x9_2.length : Int) : Int) := of_decide_eq_true (by first | (with_reducible assumption) | assumption)
                              obtain ⟨go42, co42, eo42, gb42, gl42, cl42, HG42⟩ := Kd.R_form HO_9.out (by omega)
                              (first | cases eo42 | (injection eo42 with ea_ en_ ec_; (first | subst ea_ | (injection ea_ with ea_; subst ea_)); subst ec_; clear en_))
                              have GB42 := Aside0.mk gb42
                              have GG42 := Aside0.mk HG42
                              clear gb42 gl42 HG42
                              (first | simp only [add_plain] at hx313_0 | skip)
                              obtain ⟨hx42_0, hf42_0⟩ := Kd.R_celln 0 HO_9.out ((ji36) : Int) p42 q42
                              replace p42 := eq_true p42
                              replace q42 := eq_true q42
                              have HP44 := Kd.R_putn HO_9.out ((ji36) : Int) (Go.bits .xor .u8 (rd x9_2 (ji36)) (ji41))
                              rw [← Ny314.out] at HP44
                              have HQ44 := Aside0.mk HP44
                              clear HP44
                              refine start_ (n := 11) (S := fun w' => w'.cell? ⟨go42, ((ji36)).toNat, none⟩ = some (.int .u8 (rd x9_2 (ji36)))) (ds := [10]) #[false, false, false, false, false, false, false, false, false, false, false] (by kernel_rfl) rfl rfl (hx313_0) (fun hHeld => ?_); refine with_tabW undercroftlaw06_GeomBack.tab17 undercroftlaw06_GeomBack.bits17 (fun HT_ HW_ => ?_)
                              generalize wr.drew = w43 at HO_9 BK298 BK312 HB GG42 HQ44 hf42_0 hx313_0 hx42_0 hHeld ⊢
                              refine pure_ (i := 0) (N := some 83) (v := ?_) (a' := ?_) #[true, false, false, false, false, false, false, false, false, false, false] rfl rfl (any_of HT_.out (by kernel_rfl)) (fun _ _ _ h => h) (Or.inl ⟨by rfl, ?_⟩) ?_ ?_
                              rotate_left
                              · intro w'
                                go_simp
                                with_reducible rfl
                              rotate_left
                              · simp only [Act.put, List.setIfInBounds_toArray, List.set_cons_zero, List.set_cons_succ, i64_w, i32_w]
                                rfl
                              refine pure_ (i := 1) (N := some 84) (v := ?_) (a' := ?_) #[true, true, false, false, false, false, false, false, false, false, false] rfl rfl (any_of HT_.out (by kernel_rfl)) (fun _ _ _ h => h) (Or.inl ⟨by rfl, ?_⟩) ?_ ?_
                              rotate_left
                              · intro w'
                                go_simp
                                with_reducible rfl
                              rotate_left
                              · simp only [Act.put, List.setIfInBounds_toArray, List.set_cons_zero, List.set_cons_succ, i64_w, i32_w]
                                rfl
                              refine pure_ (i := 2) (N := some 85) (v := ?_) (a' := ?_) #[true, true, true, false, false, false, false, false, false, false, false] rfl rfl (any_of HT_.out (by kernel_rfl)) (fun _ _ _ h => h) (Or.inl ⟨by rfl, ?_⟩) ?_ ?_
                              rotate_left
                              · intro w'
                                go_simp
                                with_reducible rfl
                              rotate_left
                              · simp only [Act.put, List.setIfInBounds_toArray, List.set_cons_zero, List.set_cons_succ, i64_w, i32_w]
                                rfl
                              refine pure_ (i := 3) (N := some 86) (v := ?_) (a' := ?_) #[true, true, true, true, false, false, false, false, false, false, false] rfl rfl (any_of HT_.out (by kernel_rfl)) (fun _ _ _ h => h) (Or.inl ⟨by rfl, ?_⟩) ?_ ?_
                              rotate_left
                              · intro w'
                                go_simp
                                with_reducible rfl
                              rotate_left
                              · simp only [Act.put, List.setIfInBounds_toArray, List.set_cons_zero, List.set_cons_succ, i64_w, i32_w]
                                rfl
                              refine pure_ (i := 5) (N := some 88) (v := ?_) (a' := ?_) #[true, true, true, true, false, true, false, false, false, false, false] rfl rfl (any_of HT_.out (by kernel_rfl)) (fun _ _ _ h => h) (Or.inl ⟨by rfl, ?_⟩) ?_ ?_
                              rotate_left
                              · intro w'
                                go_simp
                                with_reducible rfl
                              rotate_left
                              · simp only [Act.put, List.setIfInBounds_toArray, List.set_cons_zero, List.set_cons_succ, i64_w, i32_w]
                                rfl
                              refine pure_ (i := 6) (N := some 89) (v := ?_) (a' := ?_) #[true, true, true, true, false, true, true, false, false, false, false] rfl rfl (any_of HT_.out (by kernel_rfl)) (fun _ _ _ h => h) (Or.inl ⟨by rfl, ?_⟩) ?_ ?_
                              rotate_left
                              · intro w'
                                go_simp
                                with_reducible rfl
                              rotate_left
                              · simp only [Act.put, List.setIfInBounds_toArray, List.set_cons_zero, List.set_cons_succ, i64_w, i32_w]
                                rfl
                              refine pure_ (i := 7) (N := some 90) (v := ?_) (a' := ?_) #[true, true, true, true, false, true, true, true, false, false, false] rfl rfl (any_of HT_.out (by kernel_rfl)) (fun _ _ _ h => h) (Or.inl ⟨by rfl, ?_⟩) ?_ ?_
                              rotate_left
                              · intro w'
                                go_simp
                                with_reducible rfl
                              rotate_left
                              · simp only [Act.put, List.setIfInBounds_toArray, List.set_cons_zero, List.set_cons_succ, i64_w, i32_w]
                                rfl
                              refine take_ (i := 4) (N := some 87) (v := ?_) (a' := ?_) #[true, true, true, true, true, true, true, true, false, false, false] rfl rfl (take_ofW HT_.out HW_.out (by kernel_rfl)) (fun _ _ _ h => h) (Or.inl ⟨by rfl, ?_⟩) hHeld ?_ ?_
                              rotate_left
                              · intro w' s0
                                go_simp
                                with_reducible rfl
                              rotate_left
                              · simp only [Act.put, List.setIfInBounds_toArray, List.set_cons_zero, List.set_cons_succ, i64_w, i32_w]
                                rfl
                              refine pure_ (i := 8) (N := some 91) (v := ?_) (a' := ?_) #[true, true, true, true, true, true, true, true, true, false, false] rfl rfl (any_of HT_.out (by kernel_rfl)) (fun _ _ _ h => h) (Or.inl ⟨by rfl, ?_⟩) ?_ ?_
                              rotate_left
                              · intro w'
                                go_simp
                                with_reducible rfl
                              rotate_left
                              · simp only [Act.put, List.setIfInBounds_toArray, List.set_cons_zero, List.set_cons_succ, i64_w, i32_w]
                                rfl
                              refine pure_ (i := 9) (N := some 92) (v := ?_) (a' := ?_) #[true, true, true, true, true, true, true, true, true, true, false] rfl rfl (any_of HT_.out (by kernel_rfl)) (fun _ _ _ h => h) (Or.inl ⟨by rfl, ?_⟩) ?_ ?_
                              rotate_left
                              · intro w'
                                go_simp
                                with_reducible rfl
                              rotate_left
                              · simp only [Act.put, List.setIfInBounds_toArray, List.set_cons_zero, List.set_cons_succ, i64_w, i32_w]
                                rfl
                              refine last_ (i := 10) (N := none) #[true, true, true, true, true, true, true, true, true, true, true] rfl rfl (one_of HT_.out (by kernel_rfl)) (by decide) (fun K hK => ?_)
                              refine skip_ (w1 := ?_) (by rfl) rfl ?_ ?_
                              rotate_left
                              · go_simp
                                rfl
                              refine hK.out _ _ ?_
                              clear hK K
                              refine done_ (done_of HT_.out (by kernel_rfl)) ?_
                              try go_wp2
                              (try simp only [← hl9_2])
                              go_roundg k2
                              case measure => have := HJ9.out; have := HK2.out; omega
                              case rel => exact ⟨(y314), (true), (wrap64 (x15_2 + 1)), (by first | rfl | (simp; done) | (simp [*]; done)), (by first | rfl | (simp; done) | (simp [*]; done)), H', ⟨by have := HJ9.out; have := HK2.out; omega⟩, ⟨by (try simp only [hl9_2]); (with_reducible repeat (first | apply Kd.R_alloc | apply Kd.R_drewN | apply Kd.R_drew)); exact HQ44.out⟩, ⟨by (try simp only [hl9_2]); (with_reducible repeat (first | refine blk_drewN ?_ _ | refine blk_drew ?_ | refine blk_alloc ?_ _)); refine blk_far ?_ (by have h_ := Kd.R_ne HO_9.out BK298.out (by decide); intro e_; exact h_ (by rw [e_]; rfl)) _; (with_reducible repeat (first | refine blk_drewN ?_ _ | refine blk_drew ?_ | refine blk_alloc ?_ _)); exact BK298.out⟩, ⟨by (try simp only [hl9_2]); (with_reducible repeat (first | refine blk_drewN ?_ _ | refine blk_drew ?_ | refine blk_alloc ?_ _)); refine blk_far ?_ (by have h_ := Kd.R_ne HO_9.out BK312.out (by decide); intro e_; exact h_ (by rw [e_]; rfl)) _; (with_reducible repeat (first | refine blk_drewN ?_ _ | refine blk_drew ?_ | refine blk_alloc ?_ _)); exact BK312.out⟩, ⟨by repeat (first | (with_reducible first | exact HB.out | apply below_alloc | apply pw_below_drewN | apply below_drew1 | refine below_set ?_ GB42.out | refine below_set ?_ GE298.out | refine below_set ?_ GE312.out) | exact HB.out)⟩⟩
                            · rw [if_neg c40] at H
                              exact absurd H (by simp)
                          · rw [if_neg c38] at H
                            exact absurd H (by simp)
                        · rw [if_neg c37] at H
                          exact absurd H (by simp)
                      · rw [if_neg c35] at H
                        have c35b0 : decide ((wrap64 ((wrap64 (Int.tmod (IntKind.u64.wrap (a1)) 2048)) + x15_2)) < 2048) = false := decide_eq_false c35
                        clear c35
                        have H' := Aside0.mk H
                        clear H
                        go_wp2
                        (try simp only [← hl9_2])
                        go_roundg k2
                        case measure => have := HJ9.out; have := HK2.out; omega
                        case rel => exact ⟨(x9_2), (x14_2), (wrap64 (x15_2 + 1)), (by first | rfl | (simp; done) | (simp [*]; done)), (by first | rfl | (simp; done) | (simp [*]; done)), H', ⟨by have := HJ9.out; have := HK2.out; omega⟩, ⟨by (try simp only [hl9_2]); (with_reducible repeat (first | apply Kd.R_alloc | apply Kd.R_drewN | apply Kd.R_drew)); exact HO_9.out⟩, ⟨by (try simp only [hl9_2]); (with_reducible repeat (first | refine blk_drewN ?_ _ | refine blk_drew ?_ | refine blk_alloc ?_ _)); exact BK298.out⟩, ⟨by (try simp only [hl9_2]); (with_reducible repeat (first | refine blk_drewN ?_ _ | refine blk_drew ?_ | refine blk_alloc ?_ _)); exact BK312.out⟩, ⟨by repeat (first | (with_reducible first | exact HB.out | apply below_alloc | apply pw_below_drewN | apply below_drew1 | refine below_set ?_ GE298.out | refine below_set ?_ GE312.out) | exact HB.out)⟩⟩
                    · rw [if_neg c34] at H
                      have c34b0 : ((Go.bits .and .u32 (ji33) 1) == 1) = false := beq_eq_false_iff_ne.mpr c34
                      have c34b1 : ((Go.bits .and .u32 (ji33) 1) != 1) = true := bne_iff_ne.mpr c34
                      have H' := Aside0.mk H
                      clear H
                      go_wp2
                      (try simp only [← hl9_2])
                      go_roundg k2
                      case measure => have := HJ9.out; have := HK2.out; omega
                      case rel => exact ⟨(x9_2), (x14_2), (wrap64 (x15_2 + 1)), (by first | rfl | (simp; done) | (simp [*]; done)), (by first | rfl | (simp; done) | (simp [*]; done)), H', ⟨by have := HJ9.out; have := HK2.out; omega⟩, ⟨by (try simp only [hl9_2]); (with_reducible repeat (first | apply Kd.R_alloc | apply Kd.R_drewN | apply Kd.R_drew)); exact HO_9.out⟩, ⟨by (try simp only [hl9_2]); (with_reducible repeat (first | refine blk_drewN ?_ _ | refine blk_drew ?_ | refine blk_alloc ?_ _)); exact BK298.out⟩, ⟨by (try simp only [hl9_2]); (with_reducible repeat (first | refine blk_drewN ?_ _ | refine blk_drew ?_ | refine blk_alloc ?_ _)); exact BK312.out⟩, ⟨by repeat (first | (with_reducible first | exact HB.out | apply below_alloc | apply pw_below_drewN | apply below_drew1 | refine below_set ?_ GE298.out | refine below_set ?_ GE312.out) | exact HB.out)⟩⟩
                  · rw [if_neg c32] at H
                    exact absurd H (by simp)
                · rw [if_neg c31] at H
                  have c31b0 : decide (x15_2 < 32) = false := decide_eq_false c31
                  clear c31
                  replace H := Option.bind_eq_some_iff.mp H
                  obtain ⟨⟨t315, t316, t317, t318, t319, t320, t321, t322, t323⟩, A450, H⟩ := H
                  replace H : ((geom_Encode.f t289 t290 t291 t292 t293 t294 t295 t296).bind fun bt324 => ((undercroftref06_Encode.f k2 t289 t290 t291 t292 t293 t294 t295 t296).bind fun bt328 => (if ((t323 == 13) == x14_2) = true then (if bt324.2 = 0 then (some ((strOfNums bt324.1).toList == (strOfNums bt328.1).toList)) else (some false)) else (some false)))) = some r := H
                  have A45 := Aside0.mk A450
                  clear A450
                  replace H := Option.bind_eq_some_iff.mp H
                  obtain ⟨⟨t324, t327⟩, A460, H⟩ := H
                  replace H : ((undercroftref06_Encode.f k2 t289 t290 t291 t292 t293 t294 t295 t296).bind fun bt328 => (if ((t323 == 13) == x14_2) = true then (if t327 = 0 then (some ((strOfNums t324).toList == (strOfNums bt328.1).toList)) else (some false)) else (some false))) = some r := H
                  have A46 := Aside0.mk A460
                  obtain ⟨rfl, rfl⟩ := by simpa only [Prod.mk.injEq] using Option.some.inj (A7.out.symm.trans A46.out)
                  clear A460
                  replace H := Option.bind_eq_some_iff.mp H
                  obtain ⟨⟨t328, t331⟩, A470, H⟩ := H
                  replace H : (if ((t323 == 13) == x14_2) = true then (if t302 = 0 then (some ((strOfNums t299).toList == (strOfNums t328).toList)) else (some false)) else (some false)) = some r := H
                  have A47 := Aside0.mk A470
                  clear A470
                  by_cases c48 : ((t323 == 13) == x14_2) = true
                  · rw [if_pos c48] at H
                    have c48b0 : ((t323 == 13) == x14_2) = true := c48
                    (try (have c48b1 : decide ((t323 == 13) = x14_2) = true := by simpa using c48))
                    (try (have c48b2 : ((t323 == 13) == x14_2) = true := by simpa using c48))
                    clear c48
                    by_cases c49 : t302 = 0
                    · rw [if_pos c49] at H
                      have c49b0 : (t302 == 0) = true := beq_iff_eq.mpr c49
                      have c49b1 : (t302 != 0) = false := bne_eq_false_iff_eq.mpr c49
                      clear c49
                      obtain rfl := Option.some.inj H
                      go_wp2_with (first | ((with_reducible refine gate_callee (f := 17) rfl ?_); refine goesL_ (some 95) rfl rfl Try.func17 (by kernel_rfl) rfl #[.slice Ao16 x9_2.length co16] rfl (by (try simp only [List.map_toArray, List.map_cons, List.map_nil]); first | done | rfl | (simp only [List.length_drop, List.length_take]; rfl)) ?_; (with_reducible refine (geom_Decode.calls k2 _ _ x9_2 t315 t316 t317 t318 t319 t320 t321 t322 t323 _ ?side1 ?side2 A45.out).mono ?_); (case side1 => repeat (first | exact (Kd.R_reads' HO_9.out).2.2 | (with_reducible refine Kd.C_alloc ?_ _) | (with_reducible refine Kd.C_drewN ?_ _) | (with_reducible refine Kd.C_drew ?_))); (case side2 => exact (Kd.R_reads' HO_9.out).2.1); rintro e w50 ⟨rfl, hb⟩; refine ⟨_, rfl, ?_⟩; have n0_ := Aside0.mk (Kd.R_below (by (with_reducible repeat (first | apply Kd.R_alloc | apply Kd.R_drewN | apply Kd.R_drew)); exact HO_9.out) hb); have n1_ := Aside0.mk (blk_below (g := gb298) (o := .cells #[.int .i64 t289, .int .i64 t290, .int .i64 t291, .int .i64 t292, .int .i64 t293, .int .i64 t294, .int .i64 t295, .int .i64 t296] 24 (0, 0)) (by (with_reducible repeat (first | refine blk_drewN ?_ _ | refine blk_drew ?_ | refine blk_alloc ?_ _)); exact BK298.out) hb); have n2_ := Aside0.mk (blk_below (g := gb312) (o := .cells #[.int .i64 t303, .int .i64 t304, .int .i64 t305, .int .i64 t306, .int .i64 t307, .int .i64 t308, .int .i64 t309, .int .i64 t310] 24 (0, 0)) (by (with_reducible repeat (first | refine blk_drewN ?_ _ | refine blk_drew ?_ | refine blk_alloc ?_ _)); exact BK312.out) hb); have n3_ := Aside0.mk (below_step (by repeat (first | (with_reducible first | exact HB.out | apply below_alloc | apply pw_below_drewN | apply below_drew1 | refine below_set ?_ GE298.out | refine below_set ?_ GE312.out) | exact HB.out)) hb); clear HO_9; clear BK298; clear BK312; clear HB; have HO_9 := n0_; have BK298 := n1_; have BK312 := n2_; have HB := n3_; clear n0_ n1_ n2_ n3_; (try clear hb); (try clear hb2); (try clear hk); (try clear hi); have hnb51 := NB298_312.out; have hnc51 := NB312_298.out; have hcz52_0 : w50.cell? ⟨gb298, 0, none⟩ = some (.int .i64 t289) := (blk_cell BK298.out 0).trans rfl; have hcz52_1 : w50.cell? ⟨gb298, 1, none⟩ = some (.int .i64 t290) := (blk_cell BK298.out 1).trans rfl; have hcz52_2 : w50.cell? ⟨gb298, 2, none⟩ = some (.int .i64 t291) := (blk_cell BK298.out 2).trans rfl; have hcz52_3 : w50.cell? ⟨gb298, 3, none⟩ = some (.int .i64 t292) := (blk_cell BK298.out 3).trans rfl; have hcz52_4 : w50.cell? ⟨gb298, 4, none⟩ = some (.int .i64 t293) := (blk_cell BK298.out 4).trans rfl; have hcz52_5 : w50.cell? ⟨gb298, 5, none⟩ = some (.int .i64 t294) := (blk_cell BK298.out 5).trans rfl; have hcz52_6 : w50.cell? ⟨gb298, 6, none⟩ = some (.int .i64 t295) := (blk_cell BK298.out 6).trans rfl; have hcz52_7 : w50.cell? ⟨gb298, 7, none⟩ = some (.int .i64 t296) := (blk_cell BK298.out 7).trans rfl; have hfz52_0 := blk_frozen BK298.out 0; have hfz52_1 := blk_frozen BK298.out 1; have hfz52_2 := blk_frozen BK298.out 2; have hfz52_3 := blk_frozen BK298.out 3; have hfz52_4 := blk_frozen BK298.out 4; have hfz52_5 := blk_frozen BK298.out 5; have hfz52_6 := blk_frozen BK298.out 6; have hfz52_7 := blk_frozen BK298.out 7) | ((with_reducible refine gate_callee (f := 10) rfl ?_); refine goesL_ (some 100) rfl rfl Try.func10 (by kernel_rfl) rfl #[.agg #[.int .i64 t289, .int .i64 t290, .int .i64 t291, .int .i64 t292, .int .i64 t293, .int .i64 t294, .int .i64 t295, .int .i64 t296]] rfl (by (try simp only [List.map_toArray, List.map_cons, List.map_nil]); first | done | rfl | (simp only [List.length_drop, List.length_take]; rfl)) ?_; (with_reducible refine (geom_Encode.calls t289 t290 t291 t292 t293 t294 t295 t296 t299 t302 _ A46.out).mono ?_); rintro e w53 ⟨v325, rfl, ho0, hb⟩; refine ⟨_, rfl, ?_⟩; have n0_ := Aside0.mk (Kd.R_elder' (by (with_reducible repeat (first | apply Kd.R_alloc | apply Kd.R_drewN | apply Kd.R_drew)); exact HO_9.out) (Kd.R_base ho0) hb); have n1_ := Aside0.mk (Kd.R_lower (Kd.R_new' ho0 (Kd.R_lt (by (with_reducible repeat (first | apply Kd.R_alloc | apply Kd.R_drewN | apply Kd.R_drew)); exact HO_9.out))) (below_size (by repeat (first | (with_reducible first | exact HB.out | apply below_alloc | apply pw_below_drewN | apply below_drew1 | refine below_set ?_ GE298.out | refine below_set ?_ GE312.out) | exact HB.out)))); have n2_ := Aside0.mk (blk_below (g := gb298) (o := .cells #[.int .i64 t289, .int .i64 t290, .int .i64 t291, .int .i64 t292, .int .i64 t293, .int .i64 t294, .int .i64 t295, .int .i64 t296] 24 (0, 0)) (by (with_reducible repeat (first | refine blk_drewN ?_ _ | refine blk_drew ?_ | refine blk_alloc ?_ _)); exact BK298.out) hb); have n3_ := Aside0.mk (blk_below (g := gb312) (o := .cells #[.int .i64 t303, .int .i64 t304, .int .i64 t305, .int .i64 t306, .int .i64 t307, .int .i64 t308, .int .i64 t309, .int .i64 t310] 24 (0, 0)) (by (with_reducible repeat (first | refine blk_drewN ?_ _ | refine blk_drew ?_ | refine blk_alloc ?_ _)); exact BK312.out) hb); have n4_ := Aside0.mk (below_step (by repeat (first | (with_reducible first | exact HB.out | apply below_alloc | apply pw_below_drewN | apply below_drew1 | refine below_set ?_ GE298.out | refine below_set ?_ GE312.out) | exact HB.out)) hb); clear HO_9; clear BK298; clear BK312; clear HB; have HO_9 := n0_; have HO326 := n1_; have BK298 := n2_; have BK312 := n3_; have HB := n4_; clear n0_ n1_ n2_ n3_ n4_; (try clear hb); (try clear hb2); (try clear hk); (try clear hi); (try clear ho0); have hcz54_0 : w53.cell? ⟨gb298, 0, none⟩ = some (.int .i64 t289) := (blk_cell BK298.out 0).trans rfl; have hcz54_1 : w53.cell? ⟨gb298, 1, none⟩ = some (.int .i64 t290) := (blk_cell BK298.out 1).trans rfl; have hcz54_2 : w53.cell? ⟨gb298, 2, none⟩ = some (.int .i64 t291) := (blk_cell BK298.out 2).trans rfl; have hcz54_3 : w53.cell? ⟨gb298, 3, none⟩ = some (.int .i64 t292) := (blk_cell BK298.out 3).trans rfl; have hcz54_4 : w53.cell? ⟨gb298, 4, none⟩ = some (.int .i64 t293) := (blk_cell BK298.out 4).trans rfl; have hcz54_5 : w53.cell? ⟨gb298, 5, none⟩ = some (.int .i64 t294) := (blk_cell BK298.out 5).trans rfl; have hcz54_6 : w53.cell? ⟨gb298, 6, none⟩ = some (.int .i64 t295) := (blk_cell BK298.out 6).trans rfl; have hcz54_7 : w53.cell? ⟨gb298, 7, none⟩ = some (.int .i64 t296) := (blk_cell BK298.out 7).trans rfl; have hfz54_0 := blk_frozen BK298.out 0; have hfz54_1 := blk_frozen BK298.out 1; have hfz54_2 := blk_frozen BK298.out 2; have hfz54_3 := blk_frozen BK298.out 3; have hfz54_4 := blk_frozen BK298.out 4; have hfz54_5 := blk_frozen BK298.out 5; have hfz54_6 := blk_frozen BK298.out 6; have hfz54_7 := blk_frozen BK298.out 7) | ((with_reducible refine gate_callee (f := 12) rfl ?_); refine goesL_ (some 105) rfl rfl Try.func12 (by kernel_rfl) rfl #[.agg #[.int .i64 t289, .int .i64 t290, .int .i64 t291, .int .i64 t292, .int .i64 t293, .int .i64 t294, .int .i64 t295, .int .i64 t296]] rfl (by (try simp only [List.map_toArray, List.map_cons, List.map_nil]); first | done | rfl | (simp only [List.length_drop, List.length_take]; rfl)) ?_; (with_reducible refine (undercroftref06_Encode.calls k2 t289 t290 t291 t292 t293 t294 t295 t296 t328 t331 _ A47.out).mono ?_); rintro e w55 ⟨v329, rfl, ho0, hb⟩; refine ⟨_, rfl, ?_⟩; have n0_ := Aside0.mk (Kd.R_elder' (by (with_reducible repeat (first | apply Kd.R_alloc | apply Kd.R_drewN | apply Kd.R_drew)); exact HO_9.out) (Kd.R_base ho0) hb); have n1_ := Aside0.mk (Kd.R_elder' (by (with_reducible repeat (first | apply Kd.R_alloc | apply Kd.R_drewN | apply Kd.R_drew)); exact HO326.out) (Kd.R_base ho0) hb); have n2_ := Aside0.mk (Kd.R_lower (Kd.R_new' (Kd.R_new' ho0 (Kd.R_lt (by (with_reducible repeat (first | apply Kd.R_alloc | apply Kd.R_drewN | apply Kd.R_drew)); exact HO_9.out))) (Kd.R_lt (by (with_reducible repeat (first | apply Kd.R_alloc | apply Kd.R_drewN | apply Kd.R_drew)); exact HO326.out))) (below_size (by repeat (first | (with_reducible first | exact HB.out | apply below_alloc | apply pw_below_drewN | apply below_drew1 | refine below_set ?_ GE298.out | refine below_set ?_ GE312.out) | exact HB.out)))); have n3_ := Aside0.mk (blk_below (g := gb298) (o := .cells #[.int .i64 t289, .int .i64 t290, .int .i64 t291, .int .i64 t292, .int .i64 t293, .int .i64 t294, .int .i64 t295, .int .i64 t296] 24 (0, 0)) (by (with_reducible repeat (first | refine blk_drewN ?_ _ | refine blk_drew ?_ | refine blk_alloc ?_ _)); exact BK298.out) hb); have n4_ := Aside0.mk (blk_below (g := gb312) (o := .cells #[.int .i64 t303, .int .i64 t304, .int .i64 t305, .int .i64 t306, .int .i64 t307, .int .i64 t308, .int .i64 t309, .int .i64 t310] 24 (0, 0)) (by (with_reducible repeat (first | refine blk_drewN ?_ _ | refine blk_drew ?_ | refine blk_alloc ?_ _)); exact BK312.out) hb); have n5_ := Aside0.mk (below_step (by repeat (first | (with_reducible first | exact HB.out | apply below_alloc | apply pw_below_drewN | apply below_drew1 | refine below_set ?_ GE298.out | refine below_set ?_ GE312.out) | exact HB.out)) hb); clear HO_9; clear HO326; clear BK298; clear BK312; clear HB; have HO_9 := n0_; have HO326 := n1_; have HO330 := n2_; have BK298 := n3_; have BK312 := n4_; have HB := n5_; clear n0_ n1_ n2_ n3_ n4_ n5_; (try clear hb); (try clear hb2); (try clear hk); (try clear hi); (try clear ho0); have hcv56 := own_string (P := Try.prog) Try.underlying28 Try.underlying5 Try.underlying9 (Kd.own_of_R HO326.out); have hcd57 := fun (nd_ : Nat) => own_string (P := Try.prog) Try.underlying28 Try.underlying5 Try.underlying9 (Kd.own_of_R (Kd.R_drewN HO326.out nd_)); have hcv58 := own_string (P := Try.prog) Try.underlying28 Try.underlying5 Try.underlying9 (Kd.own_of_R HO330.out); have hcd59 := fun (nd_ : Nat) => own_string (P := Try.prog) Try.underlying28 Try.underlying5 Try.underlying9 (Kd.own_of_R (Kd.R_drewN HO330.out nd_))))
                      go_ret
                      exact ⟨by first | rfl | (simp [errW_none, errW_some] <;> rfl) | (simp [*, errW_none, errW_some] <;> rfl), by repeat (first | (with_reducible first | exact HB.out | apply below_alloc | apply pw_below_drewN | apply below_drew1 | refine below_set ?_ GE298.out | refine below_set ?_ GE312.out) | exact HB.out)⟩
                    · rw [if_neg c49] at H
                      have c49b0 : (t302 == 0) = false := beq_eq_false_iff_ne.mpr c49
                      have c49b1 : (t302 != 0) = true := bne_iff_ne.mpr c49
                      exact absurd (Option.some.inj H) (by rw [hT]; decide)
                  · rw [if_neg c48] at H
                    have c48b0 : ((t323 == 13) == x14_2) = false := by simpa using c48
                    (try (have c48b1 : decide ((t323 == 13) = x14_2) = false := by simpa using c48))
                    (try (have c48b2 : ((t323 == 13) == x14_2) = false := by simpa using c48))
                    (try (have c48b3 : ¬ ((t323 == 13) = x14_2) := by simpa using c48))
                    clear c48
                    exact absurd (Option.some.inj H) (by rw [hT]; decide)
    · rw [if_neg c8] at H
      have c8b0 : (t297 == 0) = false := beq_eq_false_iff_ne.mpr c8
      have c8b1 : (t297 != 0) = true := bne_iff_ne.mpr c8
      by_cases c72 : t302 = 1
      · rw [if_pos c72] at H
        have c72b0 : (t302 == 1) = true := beq_iff_eq.mpr c72
        have c72b1 : (t302 != 1) = false := bne_eq_false_iff_eq.mpr c72
        clear c72
        obtain rfl := Option.some.inj H
        go_enter Try.func7, Try.ntmps7
        go_wp2_with (first | ((with_reducible refine gate_callee (f := 8) rfl ?_); refine goesL_ (some 21) rfl rfl Try.func8 (by kernel_rfl) rfl #[] rfl (by (try simp only [List.map_toArray, List.map_cons, List.map_nil]); first | done | rfl | (simp only [List.length_drop, List.length_take]; rfl)) ?_; (with_reducible refine (undercroftlaw06_alive.calls  true _ A4.out).mono ?_); rintro e w73 ⟨rfl, hb⟩; refine ⟨_, rfl, ?_⟩; have n0_ := Aside0.mk (below_step (by repeat (first | (with_reducible first | exact HB.out | apply below_alloc | apply pw_below_drewN | apply below_drew1) | exact HB.out)) hb); clear HB; have HB := n0_; clear n0_; (try clear hb); (try clear hb2); (try clear hk); (try clear hi)) | ((with_reducible refine gate_callee (f := 9) rfl ?_); refine goesL_ (some 25) rfl rfl Try.func9 (by kernel_rfl) rfl #[.int .i64 a0] rfl (by (try simp only [List.map_toArray, List.map_cons, List.map_nil]); first | done | rfl | (simp only [List.length_drop, List.length_take]; rfl)) ?_; (with_reducible refine (geom_Layout.calls a0 t289 t290 t291 t292 t293 t294 t295 t296 t297 _ A6.out).mono ?_); rintro e w74 ⟨rfl, hb⟩; refine ⟨_, rfl, ?_⟩; have n0_ := Aside0.mk (below_step (by repeat (first | (with_reducible first | exact HB.out | apply below_alloc | apply pw_below_drewN | apply below_drew1) | exact HB.out)) hb); clear HB; have HB := n0_; clear n0_; (try clear hb); (try clear hb2); (try clear hk); (try clear hi)) | ((with_reducible refine gate_dst (N := 7) rfl ?_); (try (refine gate_guard (by rfl) ?_; dsimp only)); refine box_event ?hg (N := 7) ?hd (cs := #[.int .i64 0, .int .i64 0, .int .i64 0, .int .i64 0, .int .i64 0, .int .i64 0, .int .i64 0, .int .i64 0]) (t := 24) ?hr ?_; (case hd => rfl); (case hg => rfl); (case hr => first | (go_simp; done) | (go_simp; rfl)); intro gb298 hg w75 hbox hb; have n0_ := Aside0.mk (below_step (by repeat (first | (with_reducible first | exact HB.out | apply below_alloc | apply pw_below_drewN | apply below_drew1) | exact HB.out)) hb); have n1_ := Aside0.mk (hbox); have n2_ := Aside0.mk ((by rw [hg]; exact (below_size (by repeat (first | (with_reducible first | exact HB.out | apply below_alloc | apply pw_below_drewN | apply below_drew1) | exact HB.out))) : w.heap.size ≤ gb298)); have n3_ := Aside0.mk ((by rw [hg]; exact (below_size (by repeat (first | (with_reducible first | exact HB.out | apply below_alloc | apply pw_below_drewN | apply below_drew1) | exact HB.out))) : w.heap.size ≤ gb298)); clear HB; have HB := n0_; have BK298 := n1_; have GW298 := n2_; have GE298 := n3_; clear n0_ n1_ n2_ n3_; clear hb hbox hg; have hcz76_0 : w75.cell? ⟨gb298, 0, none⟩ = some (.int .i64 0) := (blk_cell BK298.out 0).trans rfl; have hcz76_1 : w75.cell? ⟨gb298, 1, none⟩ = some (.int .i64 0) := (blk_cell BK298.out 1).trans rfl; have hcz76_2 : w75.cell? ⟨gb298, 2, none⟩ = some (.int .i64 0) := (blk_cell BK298.out 2).trans rfl; have hcz76_3 : w75.cell? ⟨gb298, 3, none⟩ = some (.int .i64 0) := (blk_cell BK298.out 3).trans rfl; have hcz76_4 : w75.cell? ⟨gb298, 4, none⟩ = some (.int .i64 0) := (blk_cell BK298.out 4).trans rfl; have hcz76_5 : w75.cell? ⟨gb298, 5, none⟩ = some (.int .i64 0) := (blk_cell BK298.out 5).trans rfl; have hcz76_6 : w75.cell? ⟨gb298, 6, none⟩ = some (.int .i64 0) := (blk_cell BK298.out 6).trans rfl; have hcz76_7 : w75.cell? ⟨gb298, 7, none⟩ = some (.int .i64 0) := (blk_cell BK298.out 7).trans rfl; have hfz76_0 := blk_frozen BK298.out 0; have hfz76_1 := blk_frozen BK298.out 1; have hfz76_2 := blk_frozen BK298.out 2; have hfz76_3 := blk_frozen BK298.out 3; have hfz76_4 := blk_frozen BK298.out 4; have hfz76_5 := blk_frozen BK298.out 5; have hfz76_6 := blk_frozen BK298.out 6; have hfz76_7 := blk_frozen BK298.out 7) | ((with_reducible refine gate_callee (f := 10) rfl ?_); refine goesL_ (some 30) rfl rfl Try.func10 (by kernel_rfl) rfl #[.agg #[.int .i64 t289, .int .i64 t290, .int .i64 t291, .int .i64 t292, .int .i64 t293, .int .i64 t294, .int .i64 t295, .int .i64 t296]] rfl (by (try simp only [List.map_toArray, List.map_cons, List.map_nil]); first | done | rfl | (simp only [List.length_drop, List.length_take]; rfl)) ?_; (with_reducible refine (geom_Encode.calls t289 t290 t291 t292 t293 t294 t295 t296 t299 t302 _ A7.out).mono ?_); rintro e w77 ⟨v300, rfl, ho0, hb⟩; refine ⟨_, rfl, ?_⟩; have n0_ := Aside0.mk (Kd.R_lower ho0 (below_size (by repeat (first | (with_reducible first | exact HB.out | apply below_alloc | apply pw_below_drewN | apply below_drew1 | refine below_set ?_ GE298.out) | exact HB.out)))); have n1_ := Aside0.mk (blk_below (g := gb298) (o := .cells #[.int .i64 t289, .int .i64 t290, .int .i64 t291, .int .i64 t292, .int .i64 t293, .int .i64 t294, .int .i64 t295, .int .i64 t296] 24 (0, 0)) (by (with_reducible repeat (first | refine blk_drewN ?_ _ | refine blk_drew ?_ | refine blk_alloc ?_ _)); refine blk_put (cs := #[.int .i64 t289, .int .i64 t290, .int .i64 t291, .int .i64 t292, .int .i64 t293, .int .i64 t294, .int .i64 t295, .int .i64 0]) ?_ 7 _ rfl; (with_reducible repeat (first | refine blk_drewN ?_ _ | refine blk_drew ?_ | refine blk_alloc ?_ _)); refine blk_put (cs := #[.int .i64 t289, .int .i64 t290, .int .i64 t291, .int .i64 t292, .int .i64 t293, .int .i64 t294, .int .i64 0, .int .i64 0]) ?_ 6 _ rfl; (with_reducible repeat (first | refine blk_drewN ?_ _ | refine blk_drew ?_ | refine blk_alloc ?_ _)); refine blk_put (cs := #[.int .i64 t289, .int .i64 t290, .int .i64 t291, .int .i64 t292, .int .i64 t293, .int .i64 0, .int .i64 0, .int .i64 0]) ?_ 5 _ rfl; (with_reducible repeat (first | refine blk_drewN ?_ _ | refine blk_drew ?_ | refine blk_alloc ?_ _)); refine blk_put (cs := #[.int .i64 t289, .int .i64 t290, .int .i64 t291, .int .i64 t292, .int .i64 0, .int .i64 0, .int .i64 0, .int .i64 0]) ?_ 4 _ rfl; (with_reducible repeat (first | refine blk_drewN ?_ _ | refine blk_drew ?_ | refine blk_alloc ?_ _)); refine blk_put (cs := #[.int .i64 t289, .int .i64 t290, .int .i64 t291, .int .i64 0, .int .i64 0, .int .i64 0, .int .i64 0, .int .i64 0]) ?_ 3 _ rfl; (with_reducible repeat (first | refine blk_drewN ?_ _ | refine blk_drew ?_ | refine blk_alloc ?_ _)); refine blk_put (cs := #[.int .i64 t289, .int .i64 t290, .int .i64 0, .int .i64 0, .int .i64 0, .int .i64 0, .int .i64 0, .int .i64 0]) ?_ 2 _ rfl; (with_reducible repeat (first | refine blk_drewN ?_ _ | refine blk_drew ?_ | refine blk_alloc ?_ _)); refine blk_put (cs := #[.int .i64 t289, .int .i64 0, .int .i64 0, .int .i64 0, .int .i64 0, .int .i64 0, .int .i64 0, .int .i64 0]) ?_ 1 _ rfl; (with_reducible repeat (first | refine blk_drewN ?_ _ | refine blk_drew ?_ | refine blk_alloc ?_ _)); refine blk_put (cs := #[.int .i64 0, .int .i64 0, .int .i64 0, .int .i64 0, .int .i64 0, .int .i64 0, .int .i64 0, .int .i64 0]) ?_ 0 _ rfl; (with_reducible repeat (first | refine blk_drewN ?_ _ | refine blk_drew ?_ | refine blk_alloc ?_ _)); exact BK298.out) hb); have n2_ := Aside0.mk (below_step (by repeat (first | (with_reducible first | exact HB.out | apply below_alloc | apply pw_below_drewN | apply below_drew1 | refine below_set ?_ GE298.out) | exact HB.out)) hb); clear BK298; clear HB; have HO301 := n0_; have BK298 := n1_; have HB := n2_; clear n0_ n1_ n2_; (try clear hb); (try clear hb2); (try clear hk); (try clear hi); (try clear ho0); obtain ⟨Ao78, co78, eo78⟩ := Kd.R_slice HO301.out; subst eo78))
        go_ret
        exact ⟨by first | rfl | (simp [errW_none, errW_some] <;> rfl) | (simp [*, errW_none, errW_some] <;> rfl), by repeat (first | (with_reducible first | exact HB.out | apply below_alloc | apply pw_below_drewN | apply below_drew1 | refine below_set ?_ GE298.out) | exact HB.out)⟩
      · rw [if_neg c72] at H
        have c72b0 : (t302 == 1) = false := beq_eq_false_iff_ne.mpr c72
        have c72b1 : (t302 != 1) = true := bne_iff_ne.mpr c72
        exact absurd (Option.some.inj H) (by rw [hT]; decide)
  · replace c5 := Bool.eq_false_iff.mpr c5
    subst c5
    have H1 : (some false) = some r := by rw [if_neg (show ¬ (false = true) by decide)] at H; exact H
    clear H
    have H := H1
    clear H1
    exact absurd (Option.some.inj H) (by rw [hT]; decide)

/-- THE ONE PURE STATEMENT of undercroftlaw06_GeomBack: yours. -/
def undercroftlaw06_GeomBack.Pure : Prop := ∀ (a0 : Int) (a1 : Int) (a2 : Int), (Lit.int .i64 a0).wf = true → (Lit.int .i64 a1).wf = true → (Lit.int .u32 a2).wf = true → ∃ k, undercroftlaw06_GeomBack.f k a0 a1 a2 = some true
theorem undercroftlaw06_GeomBack.walk (P : undercroftlaw06_GeomBack.Pure) (a0 : Int) (a1 : Int) (a2 : Int) (w : World) (w0 : (Lit.int .i64 a0).wf = true) (w1 : (Lit.int .i64 a1).wf = true) (w2 : (Lit.int .u32 a2).wf = true) :
    Calls Try.prog 7 #[.int .i64 a0, .int .i64 a1, .int .u32 a2] w fun e w' => e = .returned (.bool true) ∧ Below w.heap.size w w' := by
  obtain ⟨k, h⟩ := P a0 a1 a2 w0 w1 w2
  refine (undercroftlaw06_GeomBack.calls k a0 a1 a2 true w h rfl).mono ?_
  rintro e w' ⟨rfl, hd⟩
  exact ⟨rfl, hd⟩

end Go.Proofs.Ytiaefbngegmpaaa.U
