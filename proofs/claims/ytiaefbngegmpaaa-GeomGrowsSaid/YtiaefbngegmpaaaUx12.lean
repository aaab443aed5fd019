/- Written by uprint.py (ours) for this seat: functions of the translation as Lean functions, and what their calls do. Not trusted: Lean checks it. -/
import Derived.Test.YtiaefbngegmpaaaUx0
import Derived.Test.YtiaefbngegmpaaaUx1
import Derived.Test.YtiaefbngegmpaaaUx2
import Derived.Test.YtiaefbngegmpaaaUx9
import Derived.Test.YtiaefbngegmpaaaUx11
namespace Go.Proofs.Ytiaefbngegmpaaa.U
open Go.RowKit Go.Proofs.YtiaefbngegmpaaaW.PrintWords Go.Proofs.YtiaefbngegmpaaaW.PrintLast Go.Proofs.YtiaefbngegmpaaaW.PrintMore
attribute [local go_sem] max2_int min2_int max_two min_two max_three min_three max_four min_four   -- for this text's walks alone
set_option linter.unusedVariables false
set_option linter.unusedSimpArgs false

attribute [local go_sem high] eqA24
/-! ### undercroftlaw06_GeomGrows: function 3 -/
def undercroftlaw06_GeomGrows.j0 : Nat → Int → Int → Bool → Int → Int → Int → Int → Int → Int → Int → Int → Int → Int → Int → Int → Int → Int → Int → Int → Option (Bool)
  | 0, _, _, _, _, _, _, _, _, _, _, _, _, _, _, _, _, _, _, _ => none
  | k + 1, x0, x1, x34, x144000, x144001, x144002, x144003, x144004, x144005, x144006, x144007, x154000, x154001, x154002, x154003, x154004, x154005, x154006, x154007 => if x34 = true then (some true) else ((geom_Encode.f x144000 x144001 x144002 x144003 x144004 x144005 x144006 x144007).bind fun bt154 => ((geom_Encode.f x154000 x154001 x154002 x154003 x154004 x154005 x154006 x154007).bind fun bt158 => (if x144001 ≤ x154001 then (if x144006 ≤ x154006 then (if (wrap64 (x144000 - x144007)) ≤ (wrap64 ((wrap64 (x154000 - x154007)) + 1)) then (if ((x144000 == x154000 && (x144001 == x154001 && (x144002 == x154002 && (x144003 == x154003 && (x144004 == x154004 && (x144005 == x154005 && (x144006 == x154006 && (x144007 == x154007)))))))) == (x0 == x1)) = true then (some (((strOfNums bt154.1).toList == (strOfNums bt158.1).toList) == (x0 == x1))) else (some false)) else (some false)) else (some false)) else (some false))))
def undercroftlaw06_GeomGrows.f (k : Nat) (a0 : Int) (a1 : Int) : Option (Bool) := (undercroftlaw06_alive.f).bind fun t133 => (if t133 = true then ((geom_Layout.f (mn a0 a1)).bind fun bt134 => ((geom_Layout.f (mx a0 a1)).bind fun bt144 => (if bt134.2.2.2.2.2.2.2.2 = 0 then (undercroftlaw06_GeomGrows.j0 k a0 a1 (bt144.2.2.2.2.2.2.2.2 != 0) bt134.1 bt134.2.1 bt134.2.2.1 bt134.2.2.2.1 bt134.2.2.2.2.1 bt134.2.2.2.2.2.1 bt134.2.2.2.2.2.2.1 bt134.2.2.2.2.2.2.2.1 bt144.1 bt144.2.1 bt144.2.2.1 bt144.2.2.2.1 bt144.2.2.2.2.1 bt144.2.2.2.2.2.1 bt144.2.2.2.2.2.2.1 bt144.2.2.2.2.2.2.2.1) else (undercroftlaw06_GeomGrows.j0 k a0 a1 true bt134.1 bt134.2.1 bt134.2.2.1 bt134.2.2.2.1 bt134.2.2.2.2.1 bt134.2.2.2.2.2.1 bt134.2.2.2.2.2.2.1 bt134.2.2.2.2.2.2.2.1 bt144.1 bt144.2.1 bt144.2.2.1 bt144.2.2.2.1 bt144.2.2.2.2.1 bt144.2.2.2.2.2.1 bt144.2.2.2.2.2.2.1 bt144.2.2.2.2.2.2.2.1)))) else (some false))
theorem undercroftlaw06_GeomGrows.mono_l : ∀ k, (∀ y0 y1 y2 y3 y4 y5 y6 y7 y8 y9 y10 y11 y12 y13 y14 y15 y16 y17 y18, LeO (undercroftlaw06_GeomGrows.j0 k y0 y1 y2 y3 y4 y5 y6 y7 y8 y9 y10 y11 y12 y13 y14 y15 y16 y17 y18) (undercroftlaw06_GeomGrows.j0 (k + 1) y0 y1 y2 y3 y4 y5 y6 y7 y8 y9 y10 y11 y12 y13 y14 y15 y16 y17 y18))
  | 0 => fun _ _ _ _ _ _ _ _ _ _ _ _ _ _ _ _ _ _ _ r h => by simp [undercroftlaw06_GeomGrows.j0] at h
  | k + 1 => by
    have ih0 := undercroftlaw06_GeomGrows.mono_l k
    · intro y0 y1 y2 y3 y4 y5 y6 y7 y8 y9 y10 y11 y12 y13 y14 y15 y16 y17 y18
      unfold undercroftlaw06_GeomGrows.j0
      repeat' first
      | (with_reducible exact ih0 _ _ _ _ _ _ _ _ _ _ _ _ _ _ _ _ _ _ _)
      | (with_reducible exact LeO.refl _)
      | (with_reducible exact LeO.none _)
      | (with_reducible refine LeO.ite ?_ ?_)
      | (with_reducible refine LeO.bind ?_ (fun _ => ?_))
      | exact ih0 _ _ _ _ _ _ _ _ _ _ _ _ _ _ _ _ _ _ _
      | exact LeO.none _
      | refine LeO.ite ?_ ?_
      | refine LeO.bind ?_ (fun _ => ?_)
theorem undercroftlaw06_GeomGrows.mono : ∀ a0 a1 k, LeO (undercroftlaw06_GeomGrows.f k a0 a1) (undercroftlaw06_GeomGrows.f (k + 1) a0 a1) := by
  intro a0 a1 k
  have ih0 := undercroftlaw06_GeomGrows.mono_l k
  unfold undercroftlaw06_GeomGrows.f
  repeat' first
      | (with_reducible exact ih0 _ _ _ _ _ _ _ _ _ _ _ _ _ _ _ _ _ _ _)
      | (with_reducible exact LeO.refl _)
      | (with_reducible exact LeO.none _)
      | (with_reducible refine LeO.ite ?_ ?_)
      | (with_reducible refine LeO.bind ?_ (fun _ => ?_))
      | exact ih0 _ _ _ _ _ _ _ _ _ _ _ _ _ _ _ _ _ _ _
      | exact LeO.none _
      | refine LeO.ite ?_ ?_
      | refine LeO.bind ?_ (fun _ => ?_)
set_option maxHeartbeats 8000000 in
set_option maxRecDepth 100000 in
theorem undercroftlaw06_GeomGrows.calls (k : Nat) (a0 : Int) (a1 : Int) (r : Bool) (w : World) (h : undercroftlaw06_GeomGrows.f k a0 a1 = some r) (hT : r = true) :
    Calls Try.prog 3 #[.int .i64 a0, .int .i64 a1] w fun e w' => e = .returned (.bool r) ∧ Below w.heap.size w w' := by
  have hu24 := Try.underlying24
  have HB := Aside0.mk (Below.refl w.heap.size w)
  have H : ((undercroftlaw06_alive.f).bind fun t133 => (if t133 = true then ((geom_Layout.f (mn a0 a1)).bind fun bt134 => ((geom_Layout.f (mx a0 a1)).bind fun bt144 => (if bt134.2.2.2.2.2.2.2.2 = 0 then (undercroftlaw06_GeomGrows.j0 k a0 a1 (bt144.2.2.2.2.2.2.2.2 != 0) bt134.1 bt134.2.1 bt134.2.2.1 bt134.2.2.2.1 bt134.2.2.2.2.1 bt134.2.2.2.2.2.1 bt134.2.2.2.2.2.2.1 bt134.2.2.2.2.2.2.2.1 bt144.1 bt144.2.1 bt144.2.2.1 bt144.2.2.2.1 bt144.2.2.2.2.1 bt144.2.2.2.2.2.1 bt144.2.2.2.2.2.2.1 bt144.2.2.2.2.2.2.2.1) else (undercroftlaw06_GeomGrows.j0 k a0 a1 true bt134.1 bt134.2.1 bt134.2.2.1 bt134.2.2.2.1 bt134.2.2.2.2.1 bt134.2.2.2.2.2.1 bt134.2.2.2.2.2.2.1 bt134.2.2.2.2.2.2.2.1 bt144.1 bt144.2.1 bt144.2.2.1 bt144.2.2.2.1 bt144.2.2.2.2.1 bt144.2.2.2.2.2.1 bt144.2.2.2.2.2.2.1 bt144.2.2.2.2.2.2.2.1)))) else (some false))) = some r := h
  clear h
  replace H := Option.bind_eq_some_iff.mp H
  obtain ⟨t133, A30, H⟩ := H
  replace H : (if t133 = true then ((geom_Layout.f (mn a0 a1)).bind fun bt134 => ((geom_Layout.f (mx a0 a1)).bind fun bt144 => (if bt134.2.2.2.2.2.2.2.2 = 0 then (undercroftlaw06_GeomGrows.j0 k a0 a1 (bt144.2.2.2.2.2.2.2.2 != 0) bt134.1 bt134.2.1 bt134.2.2.1 bt134.2.2.2.1 bt134.2.2.2.2.1 bt134.2.2.2.2.2.1 bt134.2.2.2.2.2.2.1 bt134.2.2.2.2.2.2.2.1 bt144.1 bt144.2.1 bt144.2.2.1 bt144.2.2.2.1 bt144.2.2.2.2.1 bt144.2.2.2.2.2.1 bt144.2.2.2.2.2.2.1 bt144.2.2.2.2.2.2.2.1) else (undercroftlaw06_GeomGrows.j0 k a0 a1 true bt134.1 bt134.2.1 bt134.2.2.1 bt134.2.2.2.1 bt134.2.2.2.2.1 bt134.2.2.2.2.2.1 bt134.2.2.2.2.2.2.1 bt134.2.2.2.2.2.2.2.1 bt144.1 bt144.2.1 bt144.2.2.1 bt144.2.2.2.1 bt144.2.2.2.2.1 bt144.2.2.2.2.2.1 bt144.2.2.2.2.2.2.1 bt144.2.2.2.2.2.2.2.1)))) else (some false)) = some r := H
  have A3 := Aside0.mk A30
  clear A30
  by_cases c4 : t133 = true
  · subst c4
    have H1 : ((geom_Layout.f (mn a0 a1)).bind fun bt134 => ((geom_Layout.f (mx a0 a1)).bind fun bt144 => (if bt134.2.2.2.2.2.2.2.2 = 0 then (undercroftlaw06_GeomGrows.j0 k a0 a1 (bt144.2.2.2.2.2.2.2.2 != 0) bt134.1 bt134.2.1 bt134.2.2.1 bt134.2.2.2.1 bt134.2.2.2.2.1 bt134.2.2.2.2.2.1 bt134.2.2.2.2.2.2.1 bt134.2.2.2.2.2.2.2.1 bt144.1 bt144.2.1 bt144.2.2.1 bt144.2.2.2.1 bt144.2.2.2.2.1 bt144.2.2.2.2.2.1 bt144.2.2.2.2.2.2.1 bt144.2.2.2.2.2.2.2.1) else (undercroftlaw06_GeomGrows.j0 k a0 a1 true bt134.1 bt134.2.1 bt134.2.2.1 bt134.2.2.2.1 bt134.2.2.2.2.1 bt134.2.2.2.2.2.1 bt134.2.2.2.2.2.2.1 bt134.2.2.2.2.2.2.2.1 bt144.1 bt144.2.1 bt144.2.2.1 bt144.2.2.2.1 bt144.2.2.2.2.1 bt144.2.2.2.2.2.1 bt144.2.2.2.2.2.2.1 bt144.2.2.2.2.2.2.2.1)))) = some r := by rw [if_pos rfl] at H; exact H
    clear H
    have H := H1
    clear H1
    obtain ⟨ji5, hji5⟩ : ∃ j_ : Int, (mn a0 a1) = j_ := ⟨_, rfl⟩
    replace H : ((geom_Layout.f (ji5)).bind fun bt134 => ((geom_Layout.f (mx a0 a1)).bind fun bt144 => (if bt134.2.2.2.2.2.2.2.2 = 0 then (undercroftlaw06_GeomGrows.j0 k a0 a1 (bt144.2.2.2.2.2.2.2.2 != 0) bt134.1 bt134.2.1 bt134.2.2.1 bt134.2.2.2.1 bt134.2.2.2.2.1 bt134.2.2.2.2.2.1 bt134.2.2.2.2.2.2.1 bt134.2.2.2.2.2.2.2.1 bt144.1 bt144.2.1 bt144.2.2.1 bt144.2.2.2.1 bt144.2.2.2.2.1 bt144.2.2.2.2.2.1 bt144.2.2.2.2.2.2.1 bt144.2.2.2.2.2.2.2.1) else (undercroftlaw06_GeomGrows.j0 k a0 a1 true bt134.1 bt134.2.1 bt134.2.2.1 bt134.2.2.2.1 bt134.2.2.2.2.1 bt134.2.2.2.2.2.1 bt134.2.2.2.2.2.2.1 bt134.2.2.2.2.2.2.2.1 bt144.1 bt144.2.1 bt144.2.2.1 bt144.2.2.2.1 bt144.2.2.2.2.1 bt144.2.2.2.2.2.1 bt144.2.2.2.2.2.2.1 bt144.2.2.2.2.2.2.2.1)))) = some r := by first | (rw [hji5] at H; exact H) | (simp only [hji5] at H ⊢; exact H)
    (try rw [hji5] at A3)
    have hji5_ : (if a1 < a0 then a1 else a0) = ji5 := hji5
    replace H := Option.bind_eq_some_iff.mp H
    obtain ⟨⟨t134, t135, t136, t137, t138, t139, t140, t141, t142⟩, A60, H⟩ := H
    replace H : ((geom_Layout.f (mx a0 a1)).bind fun bt144 => (if t142 = 0 then (undercroftlaw06_GeomGrows.j0 k a0 a1 (bt144.2.2.2.2.2.2.2.2 != 0) t134 t135 t136 t137 t138 t139 t140 t141 bt144.1 bt144.2.1 bt144.2.2.1 bt144.2.2.2.1 bt144.2.2.2.2.1 bt144.2.2.2.2.2.1 bt144.2.2.2.2.2.2.1 bt144.2.2.2.2.2.2.2.1) else (undercroftlaw06_GeomGrows.j0 k a0 a1 true t134 t135 t136 t137 t138 t139 t140 t141 bt144.1 bt144.2.1 bt144.2.2.1 bt144.2.2.2.1 bt144.2.2.2.2.1 bt144.2.2.2.2.2.1 bt144.2.2.2.2.2.2.1 bt144.2.2.2.2.2.2.2.1))) = some r := H
    have A6 := Aside0.mk A60
    clear A60
    obtain ⟨ji7, hji7⟩ : ∃ j_ : Int, (mx a0 a1) = j_ := ⟨_, rfl⟩
    replace H : ((geom_Layout.f (ji7)).bind fun bt144 => (if t142 = 0 then (undercroftlaw06_GeomGrows.j0 k a0 a1 (bt144.2.2.2.2.2.2.2.2 != 0) t134 t135 t136 t137 t138 t139 t140 t141 bt144.1 bt144.2.1 bt144.2.2.1 bt144.2.2.2.1 bt144.2.2.2.2.1 bt144.2.2.2.2.2.1 bt144.2.2.2.2.2.2.1 bt144.2.2.2.2.2.2.2.1) else (undercroftlaw06_GeomGrows.j0 k a0 a1 true t134 t135 t136 t137 t138 t139 t140 t141 bt144.1 bt144.2.1 bt144.2.2.1 bt144.2.2.2.1 bt144.2.2.2.2.1 bt144.2.2.2.2.2.1 bt144.2.2.2.2.2.2.1 bt144.2.2.2.2.2.2.2.1))) = some r := by first | (rw [hji7] at H; exact H) | (simp only [hji7] at H ⊢; exact H)
    (try rw [hji7] at A3)
    (try rw [hji7] at A6)
    have hji7_ : (if a0 < a1 then a1 else a0) = ji7 := hji7
    replace H := Option.bind_eq_some_iff.mp H
    obtain ⟨⟨t144, t145, t146, t147, t148, t149, t150, t151, t152⟩, A80, H⟩ := H
    replace H : (if t142 = 0 then (undercroftlaw06_GeomGrows.j0 k a0 a1 (t152 != 0) t134 t135 t136 t137 t138 t139 t140 t141 t144 t145 t146 t147 t148 t149 t150 t151) else (undercroftlaw06_GeomGrows.j0 k a0 a1 true t134 t135 t136 t137 t138 t139 t140 t141 t144 t145 t146 t147 t148 t149 t150 t151)) = some r := H
    have A8 := Aside0.mk A80
    clear A80
    have HC9 := Aside0.mk H
    clear H
    go_enter Try.func3, Try.ntmps3
    go_upto_region 5 with (first | ((with_reducible refine gate_callee (f := 8) rfl ?_); refine goesL_ (some 13) rfl rfl Try.func8 (by kernel_rfl) rfl #[] rfl (by (try simp only [List.map_toArray, List.map_cons, List.map_nil]); first | done | rfl | (simp only [List.length_drop, List.length_take]; rfl)) ?_; (with_reducible refine (undercroftlaw06_alive.calls  true _ A3.out).mono ?_); rintro e w10 ⟨rfl, hb⟩; refine ⟨_, rfl, ?_⟩; have n0_ := Aside0.mk (below_step (by repeat (first | (with_reducible first | exact HB.out | apply below_alloc | apply pw_below_drewN | apply below_drew1) | exact HB.out)) hb); clear HB; have HB := n0_; clear n0_; (try clear hb); (try clear hb2); (try clear hk); (try clear hi)) | ((with_reducible refine gate_callee (f := 9) rfl ?_); refine goesL_ (some 19) rfl rfl Try.func9 (by kernel_rfl) rfl #[.int .i64 ji5] rfl (by (try simp only [List.map_toArray, List.map_cons, List.map_nil]); first | done | (simp only [hji5]; rfl) | rfl | (simp only [List.length_drop, List.length_take]; rfl)) ?_; (with_reducible refine (geom_Layout.calls ji5 t134 t135 t136 t137 t138 t139 t140 t141 t142 _ A6.out).mono ?_); rintro e w11 ⟨rfl, hb⟩; refine ⟨_, rfl, ?_⟩; have n0_ := Aside0.mk (below_step (by repeat (first | (with_reducible first | exact HB.out | apply below_alloc | apply pw_below_drewN | apply below_drew1) | exact HB.out)) hb); clear HB; have HB := n0_; clear n0_; (try clear hb); (try clear hb2); (try clear hk); (try clear hi)) | ((with_reducible refine gate_dst (N := 5) rfl ?_); refine box_event ?hg (N := 5) ?hd (cs := #[.int .i64 0, .int .i64 0, .int .i64 0, .int .i64 0, .int .i64 0, .int .i64 0, .int .i64 0, .int .i64 0]) (t := 24) ?hr ?_; (case hd => rfl); (case hg => rfl); (case hr => first | (go_simp; done) | (go_simp; rfl)); intro gb143 hg w12 hbox hb; have n0_ := Aside0.mk (below_step (by repeat (first | (with_reducible first | exact HB.out | apply below_alloc | apply pw_below_drewN | apply below_drew1) | exact HB.out)) hb); have n1_ := Aside0.mk (hbox); have n2_ := Aside0.mk ((by rw [hg]; exact (below_size (by repeat (first | (with_reducible first | exact HB.out | apply below_alloc | apply pw_below_drewN | apply below_drew1) | exact HB.out))) : w.heap.size ≤ gb143)); have n3_ := Aside0.mk ((by rw [hg]; exact (below_size (by repeat (first | (with_reducible first | exact HB.out | apply below_alloc | apply pw_below_drewN | apply below_drew1) | exact HB.out))) : w.heap.size ≤ gb143)); clear HB; have HB := n0_; have BK143 := n1_; have GW143 := n2_; have GE143 := n3_; clear n0_ n1_ n2_ n3_; clear hb hbox hg; have hcz13_0 : w12.cell? ⟨gb143, 0, none⟩ = some (.int .i64 0) := (blk_cell BK143.out 0).trans rfl; have hcz13_1 : w12.cell? ⟨gb143, 1, none⟩ = some (.int .i64 0) := (blk_cell BK143.out 1).trans rfl; have hcz13_2 : w12.cell? ⟨gb143, 2, none⟩ = some (.int .i64 0) := (blk_cell BK143.out 2).trans rfl; have hcz13_3 : w12.cell? ⟨gb143, 3, none⟩ = some (.int .i64 0) := (blk_cell BK143.out 3).trans rfl; have hcz13_4 : w12.cell? ⟨gb143, 4, none⟩ = some (.int .i64 0) := (blk_cell BK143.out 4).trans rfl; have hcz13_5 : w12.cell? ⟨gb143, 5, none⟩ = some (.int .i64 0) := (blk_cell BK143.out 5).trans rfl; have hcz13_6 : w12.cell? ⟨gb143, 6, none⟩ = some (.int .i64 0) := (blk_cell BK143.out 6).trans rfl; have hcz13_7 : w12.cell? ⟨gb143, 7, none⟩ = some (.int .i64 0) := (blk_cell BK143.out 7).trans rfl; have hfz13_0 := blk_frozen BK143.out 0; have hfz13_1 := blk_frozen BK143.out 1; have hfz13_2 := blk_frozen BK143.out 2; have hfz13_3 := blk_frozen BK143.out 3; have hfz13_4 := blk_frozen BK143.out 4; have hfz13_5 := blk_frozen BK143.out 5; have hfz13_6 := blk_frozen BK143.out 6; have hfz13_7 := blk_frozen BK143.out 7) | ((with_reducible refine gate_callee (f := 9) rfl ?_); refine goesL_ (some 26) rfl rfl Try.func9 (by kernel_rfl) rfl #[.int .i64 ji7] rfl (by (try simp only [List.map_toArray, List.map_cons, List.map_nil]); first | done | (simp only [hji7]; rfl) | rfl | (simp only [List.length_drop, List.length_take]; rfl)) ?_; (with_reducible refine (geom_Layout.calls ji7 t144 t145 t146 t147 t148 t149 t150 t151 t152 _ A8.out).mono ?_); rintro e w14 ⟨rfl, hb⟩; refine ⟨_, rfl, ?_⟩; have n0_ := Aside0.mk (blk_below (g := gb143) (o := .cells #[.int .i64 t134, .int .i64 t135, .int .i64 t136, .int .i64 t137, .int .i64 t138, .int .i64 t139, .int .i64 t140, .int .i64 t141] 24 (0, 0)) (by (with_reducible repeat (first | refine blk_drewN ?_ _ | refine blk_drew ?_ | refine blk_alloc ?_ _)); refine blk_put (cs := #[.int .i64 t134, .int .i64 t135, .int .i64 t136, .int .i64 t137, .int .i64 t138, .int .i64 t139, .int .i64 t140, .int .i64 0]) ?_ 7 _ rfl; (with_reducible repeat (first | refine blk_drewN ?_ _ | refine blk_drew ?_ | refine blk_alloc ?_ _)); refine blk_put (cs := #[.int .i64 t134, .int .i64 t135, .int .i64 t136, .int .i64 t137, .int .i64 t138, .int .i64 t139, .int .i64 0, .int .i64 0]) ?_ 6 _ rfl; (with_reducible repeat (first | refine blk_drewN ?_ _ | refine blk_drew ?_ | refine blk_alloc ?_ _)); refine blk_put (cs := #[.int .i64 t134, .int .i64 t135, .int .i64 t136, .int .i64 t137, .int .i64 t138, .int .i64 0, .int .i64 0, .int .i64 0]) ?_ 5 _ rfl; (with_reducible repeat (first | refine blk_drewN ?_ _ | refine blk_drew ?_ | refine blk_alloc ?_ _)); refine blk_put (cs := #[.int .i64 t134, .int .i64 t135, .int .i64 t136, .int .i64 t137, .int .i64 0, .int .i64 0, .int .i64 0, .int .i64 0]) ?_ 4 _ rfl; (with_reducible repeat (first | refine blk_drewN ?_ _ | refine blk_drew ?_ | refine blk_alloc ?_ _)); refine blk_put (cs := #[.int .i64 t134, .int .i64 t135, .int .i64 t136, .int .i64 0, .int .i64 0, .int .i64 0, .int .i64 0, .int .i64 0]) ?_ 3 _ rfl; (with_reducible repeat (first | refine blk_drewN ?_ _ | refine blk_drew ?_ | refine blk_alloc ?_ _)); refine blk_put (cs := #[.int .i64 t134, .int .i64 t135, .int .i64 0, .int .i64 0, .int .i64 0, .int .i64 0, .int .i64 0, .int .i64 0]) ?_ 2 _ rfl; (with_reducible repeat (first | refine blk_drewN ?_ _ | refine blk_drew ?_ | refine blk_alloc ?_ _)); refine blk_put (cs := #[.int .i64 t134, .int .i64 0, .int .i64 0, .int .i64 0, .int .i64 0, .int .i64 0, .int .i64 0, .int .i64 0]) ?_ 1 _ rfl; (with_reducible repeat (first | refine blk_drewN ?_ _ | refine blk_drew ?_ | refine blk_alloc ?_ _)); refine blk_put (cs := #[.int .i64 0, .int .i64 0, .int .i64 0, .int .i64 0, .int .i64 0, .int .i64 0, .int .i64 0, .int .i64 0]) ?_ 0 _ rfl; (with_reducible repeat (first | refine blk_drewN ?_ _ | refine blk_drew ?_ | refine blk_alloc ?_ _)); exact BK143.out) hb); have n1_ := Aside0.mk (below_step (by repeat (first | (with_reducible first | exact HB.out | apply below_alloc | apply pw_below_drewN | apply below_drew1 | refine below_set ?_ GE143.out) | exact HB.out)) hb); clear BK143; clear HB; have BK143 := n0_; have HB := n1_; clear n0_ n1_; (try clear hb); (try clear hb2); (try clear hk); (try clear hi)) | ((with_reducible refine gate_dst (N := 7) rfl ?_); refine box_event ?hg (N := 7) ?hd (cs := #[.int .i64 0, .int .i64 0, .int .i64 0, .int .i64 0, .int .i64 0, .int .i64 0, .int .i64 0, .int .i64 0]) (t := 24) ?hr ?_; (case hd => rfl); (case hg => rfl); (case hr => first | (go_simp; done) | (go_simp; rfl)); intro gb153 hg w15 hbox hb; have n0_ := Aside0.mk (blk_below (g := gb143) (o := .cells #[.int .i64 t134, .int .i64 t135, .int .i64 t136, .int .i64 t137, .int .i64 t138, .int .i64 t139, .int .i64 t140, .int .i64 t141] 24 (0, 0)) (by (with_reducible repeat (first | refine blk_drewN ?_ _ | refine blk_drew ?_ | refine blk_alloc ?_ _)); exact BK143.out) hb); have n1_ := Aside0.mk (below_step (by repeat (first | (with_reducible first | exact HB.out | apply below_alloc | apply pw_below_drewN | apply below_drew1 | refine below_set ?_ GE143.out) | exact HB.out)) hb); have n2_ := Aside0.mk (hbox); have n3_ := Aside0.mk ((by rw [hg]; exact (below_size (by repeat (first | (with_reducible first | exact HB.out | apply below_alloc | apply pw_below_drewN | apply below_drew1 | refine below_set ?_ GE143.out) | exact HB.out))) : w.heap.size ≤ gb153)); have n4_ := Aside0.mk ((by rw [hg]; exact (below_size (by repeat (first | (with_reducible first | exact HB.out | apply below_alloc | apply pw_below_drewN | apply below_drew1 | refine below_set ?_ GE143.out) | exact HB.out))) : w.heap.size ≤ gb153)); have n5_ := Aside0.mk ((by rw [hg]; exact Nat.ne_of_lt (blk_lt (g := gb143) (o := .cells #[.int .i64 t134, .int .i64 t135, .int .i64 t136, .int .i64 t137, .int .i64 t138, .int .i64 t139, .int .i64 t140, .int .i64 t141] 24 (0, 0)) (by (with_reducible repeat (first | refine blk_drewN ?_ _ | refine blk_drew ?_ | refine blk_alloc ?_ _)); exact BK143.out)) : gb143 ≠ gb153)); have n6_ := Aside0.mk ((by rw [hg]; exact Nat.ne_of_gt (blk_lt (g := gb143) (o := .cells #[.int .i64 t134, .int .i64 t135, .int .i64 t136, .int .i64 t137, .int .i64 t138, .int .i64 t139, .int .i64 t140, .int .i64 t141] 24 (0, 0)) (by (with_reducible repeat (first | refine blk_drewN ?_ _ | refine blk_drew ?_ | refine blk_alloc ?_ _)); exact BK143.out)) : gb153 ≠ gb143)); clear BK143; clear HB; have BK143 := n0_; have HB := n1_; have BK153 := n2_; have GW153 := n3_; have GE153 := n4_; have NB143_153 := n5_; have NB153_143 := n6_; clear n0_ n1_ n2_ n3_ n4_ n5_ n6_; clear hb hbox hg; have hnb16 := NB153_143.out; have hnc16 := NB143_153.out; have hcz17_0 : w15.cell? ⟨gb153, 0, none⟩ = some (.int .i64 0) := (blk_cell BK153.out 0).trans rfl; have hcz17_1 : w15.cell? ⟨gb153, 1, none⟩ = some (.int .i64 0) := (blk_cell BK153.out 1).trans rfl; have hcz17_2 : w15.cell? ⟨gb153, 2, none⟩ = some (.int .i64 0) := (blk_cell BK153.out 2).trans rfl; have hcz17_3 : w15.cell? ⟨gb153, 3, none⟩ = some (.int .i64 0) := (blk_cell BK153.out 3).trans rfl; have hcz17_4 : w15.cell? ⟨gb153, 4, none⟩ = some (.int .i64 0) := (blk_cell BK153.out 4).trans rfl; have hcz17_5 : w15.cell? ⟨gb153, 5, none⟩ = some (.int .i64 0) := (blk_cell BK153.out 5).trans rfl; have hcz17_6 : w15.cell? ⟨gb153, 6, none⟩ = some (.int .i64 0) := (blk_cell BK153.out 6).trans rfl; have hcz17_7 : w15.cell? ⟨gb153, 7, none⟩ = some (.int .i64 0) := (blk_cell BK153.out 7).trans rfl; have hfz17_0 := blk_frozen BK153.out 0; have hfz17_1 := blk_frozen BK153.out 1; have hfz17_2 := blk_frozen BK153.out 2; have hfz17_3 := blk_frozen BK153.out 3; have hfz17_4 := blk_frozen BK153.out 4; have hfz17_5 := blk_frozen BK153.out 5; have hfz17_6 := blk_frozen BK153.out 6; have hfz17_7 := blk_frozen BK153.out 7))
    (try simp only [Act.put, List.setIfInBounds_toArray, List.set_cons_zero, List.set_cons_succ])
    go_cut [34] (fun v34 wc => ∃ (kq : Nat) (x34_8 : Bool), v34 = .bool x34_8 ∧ Aside0 (undercroftlaw06_GeomGrows.j0 kq a0 a1 x34_8 t134 t135 t136 t137 t138 t139 t140 t141 t144 t145 t146 t147 t148 t149 t150 t151 = some r) ∧ Aside0 (kq ≤ k) ∧ Aside0 (wc.heap[gb143]? = some (.cells #[.int .i64 t134, .int .i64 t135, .int .i64 t136, .int .i64 t137, .int .i64 t138, .int .i64 t139, .int .i64 t140, .int .i64 t141] 24 (0, 0))) ∧ Aside0 (wc.heap[gb153]? = some (.cells #[.int .i64 t144, .int .i64 t145, .int .i64 t146, .int .i64 t147, .int .i64 t148, .int .i64 t149, .int .i64 t150, .int .i64 t151] 24 (0, 0))) ∧ Aside0 (Below w.heap.size w wc))
    case first =>
      have H := HC9.out
      clear HC9
      by_cases c18 : t142 = 0
      · rw [if_pos c18] at H
        have c18b0 : (t142 == 0) = true := beq_iff_eq.mpr c18
        have c18b1 : (t142 != 0) = false := bne_eq_false_iff_eq.mpr c18
        clear c18
        (first | rw [c18b0] | (simp only [i64_w, i32_w]; rw [c18b0]) | skip)
        have H' := Aside0.mk H
        clear H
        go_wp2
        go_meet
        case rel => exact ⟨_, ((t152 != 0)), (by first | rfl | (simp; done) | (simp [*]; done)), H', ⟨by first | omega | exact Nat.le_refl _⟩, ⟨by (with_reducible repeat (first | refine blk_drewN ?_ _ | refine blk_drew ?_ | refine blk_alloc ?_ _)); refine blk_far ?_ NB143_153.out _; (with_reducible repeat (first | refine blk_drewN ?_ _ | refine blk_drew ?_ | refine blk_alloc ?_ _)); refine blk_far ?_ NB143_153.out _; (with_reducible repeat (first | refine blk_drewN ?_ _ | refine blk_drew ?_ | refine blk_alloc ?_ _)); refine blk_far ?_ NB143_153.out _; (with_reducible repeat (first | refine blk_drewN ?_ _ | refine blk_drew ?_ | refine blk_alloc ?_ _)); refine blk_far ?_ NB143_153.out _; (with_reducible repeat (first | refine blk_drewN ?_ _ | refine blk_drew ?_ | refine blk_alloc ?_ _)); refine blk_far ?_ NB143_153.out _; (with_reducible repeat (first | refine blk_drewN ?_ _ | refine blk_drew ?_ | refine blk_alloc ?_ _)); refine blk_far ?_ NB143_153.out _; (with_reducible repeat (first | refine blk_drewN ?_ _ | refine blk_drew ?_ | refine blk_alloc ?_ _)); refine blk_far ?_ NB143_153.out _; (with_reducible repeat (first | refine blk_drewN ?_ _ | refine blk_drew ?_ | refine blk_alloc ?_ _)); refine blk_far ?_ NB143_153.out _; (with_reducible repeat (first | refine blk_drewN ?_ _ | refine blk_drew ?_ | refine blk_alloc ?_ _)); exact BK143.out⟩, ⟨by (with_reducible repeat (first | refine blk_drewN ?_ _ | refine blk_drew ?_ | refine blk_alloc ?_ _)); refine blk_put (cs := #[.int .i64 t144, .int .i64 t145, .int .i64 t146, .int .i64 t147, .int .i64 t148, .int .i64 t149, .int .i64 t150, .int .i64 0]) ?_ 7 _ rfl; (with_reducible repeat (first | refine blk_drewN ?_ _ | refine blk_drew ?_ | refine blk_alloc ?_ _)); refine blk_put (cs := #[.int .i64 t144, .int .i64 t145, .int .i64 t146, .int .i64 t147, .int .i64 t148, .int .i64 t149, .int .i64 0, .int .i64 0]) ?_ 6 _ rfl; (with_reducible repeat (first | refine blk_drewN ?_ _ | refine blk_drew ?_ | refine blk_alloc ?_ _)); refine blk_put (cs := #[.int .i64 t144, .int .i64 t145, .int .i64 t146, .int .i64 t147, .int .i64 t148, .int .i64 0, .int .i64 0, .int .i64 0]) ?_ 5 _ rfl; (with_reducible repeat (first | refine blk_drewN ?_ _ | refine blk_drew ?_ | refine blk_alloc ?_ _)); refine blk_put (cs := #[.int .i64 t144, .int .i64 t145, .int .i64 t146, .int .i64 t147, .int .i64 0, .int .i64 0, .int .i64 0, .int .i64 0]) ?_ 4 _ rfl; (with_reducible repeat (first | refine blk_drewN ?_ _ | refine blk_drew ?_ | refine blk_alloc ?_ _)); refine blk_put (cs := #[.int .i64 t144, .int .i64 t145, .int .i64 t146, .int .i64 0, .int .i64 0, .int .i64 0, .int .i64 0, .int .i64 0]) ?_ 3 _ rfl; (with_reducible repeat (first | refine blk_drewN ?_ _ | refine blk_drew ?_ | refine blk_alloc ?_ _)); refine blk_put (cs := #[.int .i64 t144, .int .i64 t145, .int .i64 0, .int .i64 0, .int .i64 0, .int .i64 0, .int .i64 0, .int .i64 0]) ?_ 2 _ rfl; (with_reducible repeat (first | refine blk_drewN ?_ _ | refine blk_drew ?_ | refine blk_alloc ?_ _)); refine blk_put (cs := #[.int .i64 t144, .int .i64 0, .int .i64 0, .int .i64 0, .int .i64 0, .int .i64 0, .int .i64 0, .int .i64 0]) ?_ 1 _ rfl; (with_reducible repeat (first | refine blk_drewN ?_ _ | refine blk_drew ?_ | refine blk_alloc ?_ _)); refine blk_put (cs := #[.int .i64 0, .int .i64 0, .int .i64 0, .int .i64 0, .int .i64 0, .int .i64 0, .int .i64 0, .int .i64 0]) ?_ 0 _ rfl; (with_reducible repeat (first | refine blk_drewN ?_ _ | refine blk_drew ?_ | refine blk_alloc ?_ _)); exact BK153.out⟩, ⟨by repeat (first | (with_reducible first | exact HB.out | apply below_alloc | apply pw_below_drewN | apply below_drew1 | refine below_set ?_ GE143.out | refine below_set ?_ GE153.out) | exact HB.out)⟩⟩
      · rw [if_neg c18] at H
        have c18b0 : (t142 == 0) = false := beq_eq_false_iff_ne.mpr c18
        have c18b1 : (t142 != 0) = true := bne_iff_ne.mpr c18
        (first | rw [c18b0] | (simp only [i64_w, i32_w]; rw [c18b0]) | skip)
        have H' := Aside0.mk H
        clear H
        go_wp2
        go_meet
        case rel => exact ⟨_, (true), (by first | rfl | (simp; done) | (simp [*]; done)), H', ⟨by first | omega | exact Nat.le_refl _⟩, ⟨by (with_reducible repeat (first | refine blk_drewN ?_ _ | refine blk_drew ?_ | refine blk_alloc ?_ _)); refine blk_far ?_ NB143_153.out _; (with_reducible repeat (first | refine blk_drewN ?_ _ | refine blk_drew ?_ | refine blk_alloc ?_ _)); refine blk_far ?_ NB143_153.out _; (with_reducible repeat (first | refine blk_drewN ?_ _ | refine blk_drew ?_ | refine blk_alloc ?_ _)); refine blk_far ?_ NB143_153.out _; (with_reducible repeat (first | refine blk_drewN ?_ _ | refine blk_drew ?_ | refine blk_alloc ?_ _)); refine blk_far ?_ NB143_153.out _; (with_reducible repeat (first | refine blk_drewN ?_ _ | refine blk_drew ?_ | refine blk_alloc ?_ _)); refine blk_far ?_ NB143_153.out _; (with_reducible repeat (first | refine blk_drewN ?_ _ | refine blk_drew ?_ | refine blk_alloc ?_ _)); refine blk_far ?_ NB143_153.out _; (with_reducible repeat (first | refine blk_drewN ?_ _ | refine blk_drew ?_ | refine blk_alloc ?_ _)); refine blk_far ?_ NB143_153.out _; (with_reducible repeat (first | refine blk_drewN ?_ _ | refine blk_drew ?_ | refine blk_alloc ?_ _)); refine blk_far ?_ NB143_153.out _; (with_reducible repeat (first | refine blk_drewN ?_ _ | refine blk_drew ?_ | refine blk_alloc ?_ _)); exact BK143.out⟩, ⟨by (with_reducible repeat (first | refine blk_drewN ?_ _ | refine blk_drew ?_ | refine blk_alloc ?_ _)); refine blk_put (cs := #[.int .i64 t144, .int .i64 t145, .int .i64 t146, .int .i64 t147, .int .i64 t148, .int .i64 t149, .int .i64 t150, .int .i64 0]) ?_ 7 _ rfl; (with_reducible repeat (first | refine blk_drewN ?_ _ | refine blk_drew ?_ | refine blk_alloc ?_ _)); refine blk_put (cs := #[.int .i64 t144, .int .i64 t145, .int .i64 t146, .int .i64 t147, .int .i64 t148, .int .i64 t149, .int .i64 0, .int .i64 0]) ?_ 6 _ rfl; (with_reducible repeat (first | refine blk_drewN ?_ _ | refine blk_drew ?_ | refine blk_alloc ?_ _)); refine blk_put (cs := #[.int .i64 t144, .int .i64 t145, .int .i64 t146, .int .i64 t147, .int .i64 t148, .int .i64 0, .int .i64 0, .int .i64 0]) ?_ 5 _ rfl; (with_reducible repeat (first | refine blk_drewN ?_ _ | refine blk_drew ?_ | refine blk_alloc ?_ _)); refine blk_put (cs := #[.int .i64 t144, .int .i64 t145, .int .i64 t146, .int .i64 t147, .int .i64 0, .int .i64 0, .int .i64 0, .int .i64 0]) ?_ 4 _ rfl; (with_reducible repeat (first | refine blk_drewN ?_ _ | refine blk_drew ?_ | refine blk_alloc ?_ _)); refine blk_put (cs := #[.int .i64 t144, .int .i64 t145, .int .i64 t146, .int .i64 0, .int .i64 0, .int .i64 0, .int .i64 0, .int .i64 0]) ?_ 3 _ rfl; (with_reducible repeat (first | refine blk_drewN ?_ _ | refine blk_drew ?_ | refine blk_alloc ?_ _)); refine blk_put (cs := #[.int .i64 t144, .int .i64 t145, .int .i64 0, .int .i64 0, .int .i64 0, .int .i64 0, .int .i64 0, .int .i64 0]) ?_ 2 _ rfl; (with_reducible repeat (first | refine blk_drewN ?_ _ | refine blk_drew ?_ | refine blk_alloc ?_ _)); refine blk_put (cs := #[.int .i64 t144, .int .i64 0, .int .i64 0, .int .i64 0, .int .i64 0, .int .i64 0, .int .i64 0, .int .i64 0]) ?_ 1 _ rfl; (with_reducible repeat (first | refine blk_drewN ?_ _ | refine blk_drew ?_ | refine blk_alloc ?_ _)); refine blk_put (cs := #[.int .i64 0, .int .i64 0, .int .i64 0, .int .i64 0, .int .i64 0, .int .i64 0, .int .i64 0, .int .i64 0]) ?_ 0 _ rfl; (with_reducible repeat (first | refine blk_drewN ?_ _ | refine blk_drew ?_ | refine blk_alloc ?_ _)); exact BK153.out⟩, ⟨by repeat (first | (with_reducible first | exact HB.out | apply below_alloc | apply pw_below_drewN | apply below_drew1 | refine below_set ?_ GE143.out | refine below_set ?_ GE153.out) | exact HB.out)⟩⟩
    case rest =>
      clear HC9
      try clear c1
      try clear p2
      try clear c3
      try clear c4
      try clear c8
      try clear c9
      try clear c16
      try clear c18
      try clear c18b0
      try clear c18b1
      try clear hcz13_0
      try clear hcz13_1
      try clear hcz13_2
      try clear hcz13_3
      try clear hcz13_4
      try clear hcz13_5
      try clear hcz13_6
      try clear hcz13_7
      try clear hcz17_0
      try clear hcz17_1
      try clear hcz17_2
      try clear hcz17_3
      try clear hcz17_4
      try clear hcz17_5
      try clear hcz17_6
      try clear hcz17_7
      try clear hfz13_0
      try clear hfz13_1
      try clear hfz13_2
      try clear hfz13_3
      try clear hfz13_4
      try clear hfz13_5
      try clear hfz13_6
      try clear hfz13_7
      try clear hfz17_0
      try clear hfz17_1
      try clear hfz17_2
      try clear hfz17_3
      try clear hfz17_4
      try clear hfz17_5
      try clear hfz17_6
      try clear hfz17_7
      obtain ⟨kq, x34_8, rfl, HA, HJ8, BK143, BK153, HB⟩ := hcut
      cases kq with
      | zero => exact absurd HA.out (by simp [undercroftlaw06_GeomGrows.j0])
      | succ kj8 =>
        have H := HA.out
        clear HA
        simp only [undercroftlaw06_GeomGrows.j0] at H
        by_cases c19 : x34_8 = true
        · subst c19
          have H1 : (some true) = some r := by rw [if_pos rfl] at H; exact H
          clear H
          have H := H1
          clear H1
          obtain rfl := Option.some.inj H
          go_wp2
          go_ret
          exact ⟨by first | rfl | (simp [errW_none, errW_some] <;> rfl) | (simp only [← hji5, ← hji7]; first | rfl | (simp [errW_none, errW_some] <;> rfl)) | (simp [*, errW_none, errW_some] <;> rfl), by repeat (first | (with_reducible first | exact HB.out | apply below_alloc | apply pw_below_drewN | apply below_drew1 | refine below_set ?_ GE143.out | refine below_set ?_ GE153.out) | exact HB.out)⟩
        · replace c19 := Bool.eq_false_iff.mpr c19
          subst c19
          have H1 : ((geom_Encode.f t134 t135 t136 t137 t138 t139 t140 t141).bind fun bt154 => ((geom_Encode.f t144 t145 t146 t147 t148 t149 t150 t151).bind fun bt158 => (if t135 ≤ t145 then (if t140 ≤ t150 then (if (wrap64 (t134 - t141)) ≤ (wrap64 ((wrap64 (t144 - t151)) + 1)) then (if ((t134 == t144 && (t135 == t145 && (t136 == t146 && (t137 == t147 && (t138 == t148 && (t139 == t149 && (t140 == t150 && (t141 == t151)))))))) == (a0 == a1)) = true then (some (((strOfNums bt154.1).toList == (strOfNums bt158.1).toList) == (a0 == a1))) else (some false)) else (some false)) else (some false)) else (some false)))) = some r := by rw [if_neg (show ¬ (false = true) by decide)] at H; exact H
          clear H
          have H := H1
          clear H1
          replace H := Option.bind_eq_some_iff.mp H
          obtain ⟨⟨t154, t157⟩, A200, H⟩ := H
          replace H : ((geom_Encode.f t144 t145 t146 t147 t148 t149 t150 t151).bind fun bt158 => (if t135 ≤ t145 then (if t140 ≤ t150 then (if (wrap64 (t134 - t141)) ≤ (wrap64 ((wrap64 (t144 - t151)) + 1)) then (if ((t134 == t144 && (t135 == t145 && (t136 == t146 && (t137 == t147 && (t138 == t148 && (t139 == t149 && (t140 == t150 && (t141 == t151)))))))) == (a0 == a1)) = true then (some (((strOfNums t154).toList == (strOfNums bt158.1).toList) == (a0 == a1))) else (some false)) else (some false)) else (some false)) else (some false))) = some r := H
          have A20 := Aside0.mk A200
          clear A200
          replace H := Option.bind_eq_some_iff.mp H
          obtain ⟨⟨t158, t161⟩, A210, H⟩ := H
          replace H : (if t135 ≤ t145 then (if t140 ≤ t150 then (if (wrap64 (t134 - t141)) ≤ (wrap64 ((wrap64 (t144 - t151)) + 1)) then (if ((t134 == t144 && (t135 == t145 && (t136 == t146 && (t137 == t147 && (t138 == t148 && (t139 == t149 && (t140 == t150 && (t141 == t151)))))))) == (a0 == a1)) = true then (some (((strOfNums t154).toList == (strOfNums t158).toList) == (a0 == a1))) else (some false)) else (some false)) else (some false)) else (some false)) = some r := H
          have A21 := Aside0.mk A210
          clear A210
          by_cases c22 : t135 ≤ t145
          · rw [if_pos c22] at H
            have c22b0 : decide (t135 ≤ t145) = true := decide_eq_true c22
            clear c22
            by_cases c23 : t140 ≤ t150
            · rw [if_pos c23] at H
              have c23b0 : decide (t140 ≤ t150) = true := decide_eq_true c23
              clear c23
              by_cases c24 : (wrap64 (t134 - t141)) ≤ (wrap64 ((wrap64 (t144 - t151)) + 1))
              · rw [if_pos c24] at H
                have c24b0 : decide ((wrap64 (t134 - t141)) ≤ (wrap64 ((wrap64 (t144 - t151)) + 1))) = true := decide_eq_true c24
                clear c24
                by_cases c25 : ((t134 == t144 && (t135 == t145 && (t136 == t146 && (t137 == t147 && (t138 == t148 && (t139 == t149 && (t140 == t150 && (t141 == t151)))))))) == (a0 == a1)) = true
                · rw [if_pos c25] at H
                  have c25b0 : ((t134 == t144 && (t135 == t145 && (t136 == t146 && (t137 == t147 && (t138 == t148 && (t139 == t149 && (t140 == t150 && (t141 == t151)))))))) == (a0 == a1)) = true := c25
                  (try (have c25b1 : decide ((t134 == t144 && (t135 == t145 && (t136 == t146 && (t137 == t147 && (t138 == t148 && (t139 == t149 && (t140 == t150 && (t141 == t151)))))))) = (a0 == a1)) = true := by simpa using c25))
                  (try (have c25b2 : ((t134 == t144 && (t135 == t145 && (t136 == t146 && (t137 == t147 && (t138 == t148 && (t139 == t149 && (t140 == t150 && (t141 == t151)))))))) == (a0 == a1)) = true := by simpa using c25))
                  clear c25
                  obtain rfl := Option.some.inj H
                  have hnb26 := NB143_153.out
                  have hnc26 := NB153_143.out
                  have hcz27_0 : wc.cell? ⟨gb143, 0, none⟩ = some (.int .i64 t134) := (blk_cell BK143.out 0).trans rfl
                  have hcz27_1 : wc.cell? ⟨gb143, 1, none⟩ = some (.int .i64 t135) := (blk_cell BK143.out 1).trans rfl
                  have hcz27_2 : wc.cell? ⟨gb143, 2, none⟩ = some (.int .i64 t136) := (blk_cell BK143.out 2).trans rfl
                  have hcz27_3 : wc.cell? ⟨gb143, 3, none⟩ = some (.int .i64 t137) := (blk_cell BK143.out 3).trans rfl
                  have hcz27_4 : wc.cell? ⟨gb143, 4, none⟩ = some (.int .i64 t138) := (blk_cell BK143.out 4).trans rfl
                  have hcz27_5 : wc.cell? ⟨gb143, 5, none⟩ = some (.int .i64 t139) := (blk_cell BK143.out 5).trans rfl
                  have hcz27_6 : wc.cell? ⟨gb143, 6, none⟩ = some (.int .i64 t140) := (blk_cell BK143.out 6).trans rfl
                  have hcz27_7 : wc.cell? ⟨gb143, 7, none⟩ = some (.int .i64 t141) := (blk_cell BK143.out 7).trans rfl
                  have hfz27_0 := blk_frozen BK143.out 0
                  have hfz27_1 := blk_frozen BK143.out 1
                  have hfz27_2 := blk_frozen BK143.out 2
                  have hfz27_3 := blk_frozen BK143.out 3
                  have hfz27_4 := blk_frozen BK143.out 4
                  have hfz27_5 := blk_frozen BK143.out 5
                  have hfz27_6 := blk_frozen BK143.out 6
                  have hfz27_7 := blk_frozen BK143.out 7
                  go_wp2_with (first | ((with_reducible refine gate_callee (f := 10) rfl ?_); refine goesL_ (some 37) rfl rfl Try.func10 (by kernel_rfl) rfl #[.agg #[.int .i64 t134, .int .i64 t135, .int .i64 t136, .int .i64 t137, .int .i64 t138, .int .i64 t139, .int .i64 t140, .int .i64 t141]] rfl (by (try simp only [List.map_toArray, List.map_cons, List.map_nil]); first | done | rfl | (simp only [List.length_drop, List.length_take]; rfl)) ?_; (with_reducible refine (geom_Encode.calls t134 t135 t136 t137 t138 t139 t140 t141 t154 t157 _ A20.out).mono ?_); rintro e w28 ⟨v155, rfl, ho0, hb⟩; refine ⟨_, rfl, ?_⟩; have n0_ := Aside0.mk (Kd.R_lower ho0 (below_size (by repeat (first | (with_reducible first | exact HB.out | apply below_alloc | apply pw_below_drewN | apply below_drew1 | refine below_set ?_ GE143.out | refine below_set ?_ GE153.out) | exact HB.out)))); have n1_ := Aside0.mk (blk_below (g := gb143) (o := .cells #[.int .i64 t134, .int .i64 t135, .int .i64 t136, .int .i64 t137, .int .i64 t138, .int .i64 t139, .int .i64 t140, .int .i64 t141] 24 (0, 0)) (by (with_reducible repeat (first | refine blk_drewN ?_ _ | refine blk_drew ?_ | refine blk_alloc ?_ _)); exact BK143.out) hb); have n2_ := Aside0.mk (blk_below (g := gb153) (o := .cells #[.int .i64 t144, .int .i64 t145, .int .i64 t146, .int .i64 t147, .int .i64 t148, .int .i64 t149, .int .i64 t150, .int .i64 t151] 24 (0, 0)) (by (with_reducible repeat (first | refine blk_drewN ?_ _ | refine blk_drew ?_ | refine blk_alloc ?_ _)); exact BK153.out) hb); have n3_ := Aside0.mk (below_step (by repeat (first | (with_reducible first | exact HB.out | apply below_alloc | apply pw_below_drewN | apply below_drew1 | refine below_set ?_ GE143.out | refine below_set ?_ GE153.out) | exact HB.out)) hb); clear BK143; clear BK153; clear HB; have HO156 := n0_; have BK143 := n1_; have BK153 := n2_; have HB := n3_; clear n0_ n1_ n2_ n3_; (try clear hb); (try clear hb2); (try clear hk); (try clear hi); (try clear ho0); have hcz29_0 : w28.cell? ⟨gb153, 0, none⟩ = some (.int .i64 t144) := (blk_cell BK153.out 0).trans rfl; have hcz29_1 : w28.cell? ⟨gb153, 1, none⟩ = some (.int .i64 t145) := (blk_cell BK153.out 1).trans rfl; have hcz29_2 : w28.cell? ⟨gb153, 2, none⟩ = some (.int .i64 t146) := (blk_cell BK153.out 2).trans rfl; have hcz29_3 : w28.cell? ⟨gb153, 3, none⟩ = some (.int .i64 t147) := (blk_cell BK153.out 3).trans rfl; have hcz29_4 : w28.cell? ⟨gb153, 4, none⟩ = some (.int .i64 t148) := (blk_cell BK153.out 4).trans rfl; have hcz29_5 : w28.cell? ⟨gb153, 5, none⟩ = some (.int .i64 t149) := (blk_cell BK153.out 5).trans rfl; have hcz29_6 : w28.cell? ⟨gb153, 6, none⟩ = some (.int .i64 t150) := (blk_cell BK153.out 6).trans rfl; have hcz29_7 : w28.cell? ⟨gb153, 7, none⟩ = some (.int .i64 t151) := (blk_cell BK153.out 7).trans rfl; have hfz29_0 := blk_frozen BK153.out 0; have hfz29_1 := blk_frozen BK153.out 1; have hfz29_2 := blk_frozen BK153.out 2; have hfz29_3 := blk_frozen BK153.out 3; have hfz29_4 := blk_frozen BK153.out 4; have hfz29_5 := blk_frozen BK153.out 5; have hfz29_6 := blk_frozen BK153.out 6; have hfz29_7 := blk_frozen BK153.out 7) | ((with_reducible refine gate_callee (f := 10) rfl ?_); refine goesL_ (some 42) rfl rfl Try.func10 (by kernel_rfl) rfl #[.agg #[.int .i64 t144, .int .i64 t145, .int .i64 t146, .int .i64 t147, .int .i64 t148, .int .i64 t149, .int .i64 t150, .int .i64 t151]] rfl (by (try simp only [List.map_toArray, List.map_cons, List.map_nil]); first | done | rfl | (simp only [List.length_drop, List.length_take]; rfl)) ?_; (with_reducible refine (geom_Encode.calls t144 t145 t146 t147 t148 t149 t150 t151 t158 t161 _ A21.out).mono ?_); rintro e w30 ⟨v159, rfl, ho0, hb⟩; refine ⟨_, rfl, ?_⟩; have n0_ := Aside0.mk (Kd.R_elder' (by (with_reducible repeat (first | apply Kd.R_alloc | apply Kd.R_drewN | apply Kd.R_drew)); exact HO156.out) (Kd.R_base ho0) hb); have n1_ := Aside0.mk (Kd.R_lower (Kd.R_new' ho0 (Kd.R_lt (by (with_reducible repeat (first | apply Kd.R_alloc | apply Kd.R_drewN | apply Kd.R_drew)); exact HO156.out))) (below_size (by repeat (first | (with_reducible first | exact HB.out | apply below_alloc | apply pw_below_drewN | apply below_drew1 | refine below_set ?_ GE143.out | refine below_set ?_ GE153.out) | exact HB.out)))); have n2_ := Aside0.mk (blk_below (g := gb143) (o := .cells #[.int .i64 t134, .int .i64 t135, .int .i64 t136, .int .i64 t137, .int .i64 t138, .int .i64 t139, .int .i64 t140, .int .i64 t141] 24 (0, 0)) (by (with_reducible repeat (first | refine blk_drewN ?_ _ | refine blk_drew ?_ | refine blk_alloc ?_ _)); exact BK143.out) hb); have n3_ := Aside0.mk (blk_below (g := gb153) (o := .cells #[.int .i64 t144, .int .i64 t145, .int .i64 t146, .int .i64 t147, .int .i64 t148, .int .i64 t149, .int .i64 t150, .int .i64 t151] 24 (0, 0)) (by (with_reducible repeat (first | refine blk_drewN ?_ _ | refine blk_drew ?_ | refine blk_alloc ?_ _)); exact BK153.out) hb); have n4_ := Aside0.mk (below_step (by repeat (first | (with_reducible first | exact HB.out | apply below_alloc | apply pw_below_drewN | apply below_drew1 | refine below_set ?_ GE143.out | refine below_set ?_ GE153.out) | exact HB.out)) hb); clear HO156; clear BK143; clear BK153; clear HB; have HO156 := n0_; have HO160 := n1_; have BK143 := n2_; have BK153 := n3_; have HB := n4_; clear n0_ n1_ n2_ n3_ n4_; (try clear hb); (try clear hb2); (try clear hk); (try clear hi); (try clear ho0); have hcz31_0 : w30.cell? ⟨gb143, 0, none⟩ = some (.int .i64 t134) := (blk_cell BK143.out 0).trans rfl; have hcz31_1 : w30.cell? ⟨gb143, 1, none⟩ = some (.int .i64 t135) := (blk_cell BK143.out 1).trans rfl; have hcz31_2 : w30.cell? ⟨gb143, 2, none⟩ = some (.int .i64 t136) := (blk_cell BK143.out 2).trans rfl; have hcz31_3 : w30.cell? ⟨gb143, 3, none⟩ = some (.int .i64 t137) := (blk_cell BK143.out 3).trans rfl; have hcz31_4 : w30.cell? ⟨gb143, 4, none⟩ = some (.int .i64 t138) := (blk_cell BK143.out 4).trans rfl; have hcz31_5 : w30.cell? ⟨gb143, 5, none⟩ = some (.int .i64 t139) := (blk_cell BK143.out 5).trans rfl; have hcz31_6 : w30.cell? ⟨gb143, 6, none⟩ = some (.int .i64 t140) := (blk_cell BK143.out 6).trans rfl; have hcz31_7 : w30.cell? ⟨gb143, 7, none⟩ = some (.int .i64 t141) := (blk_cell BK143.out 7).trans rfl; have hfz31_0 := blk_frozen BK143.out 0; have hfz31_1 := blk_frozen BK143.out 1; have hfz31_2 := blk_frozen BK143.out 2; have hfz31_3 := blk_frozen BK143.out 3; have hfz31_4 := blk_frozen BK143.out 4; have hfz31_5 := blk_frozen BK143.out 5; have hfz31_6 := blk_frozen BK143.out 6; have hfz31_7 := blk_frozen BK143.out 7; have hcz32_0 : w30.cell? ⟨gb153, 0, none⟩ = some (.int .i64 t144) := (blk_cell BK153.out 0).trans rfl; have hcz32_1 : w30.cell? ⟨gb153, 1, none⟩ = some (.int .i64 t145) := (blk_cell BK153.out 1).trans rfl; have hcz32_2 : w30.cell? ⟨gb153, 2, none⟩ = some (.int .i64 t146) := (blk_cell BK153.out 2).trans rfl; have hcz32_3 : w30.cell? ⟨gb153, 3, none⟩ = some (.int .i64 t147) := (blk_cell BK153.out 3).trans rfl; have hcz32_4 : w30.cell? ⟨gb153, 4, none⟩ = some (.int .i64 t148) := (blk_cell BK153.out 4).trans rfl; have hcz32_5 : w30.cell? ⟨gb153, 5, none⟩ = some (.int .i64 t149) := (blk_cell BK153.out 5).trans rfl; have hcz32_6 : w30.cell? ⟨gb153, 6, none⟩ = some (.int .i64 t150) := (blk_cell BK153.out 6).trans rfl; have hcz32_7 : w30.cell? ⟨gb153, 7, none⟩ = some (.int .i64 t151) := (blk_cell BK153.out 7).trans rfl; have hfz32_0 := blk_frozen BK153.out 0; have hfz32_1 := blk_frozen BK153.out 1; have hfz32_2 := blk_frozen BK153.out 2; have hfz32_3 := blk_frozen BK153.out 3; have hfz32_4 := blk_frozen BK153.out 4; have hfz32_5 := blk_frozen BK153.out 5; have hfz32_6 := blk_frozen BK153.out 6; have hfz32_7 := blk_frozen BK153.out 7; have hcv33 := own_string (P := Try.prog) Try.underlying28 Try.underlying5 Try.underlying9 (Kd.own_of_R HO156.out); have hcd34 := fun (nd_ : Nat) => own_string (P := Try.prog) Try.underlying28 Try.underlying5 Try.underlying9 (Kd.own_of_R (Kd.R_drewN HO156.out nd_)); have hcv35 := own_string (P := Try.prog) Try.underlying28 Try.underlying5 Try.underlying9 (Kd.own_of_R HO160.out); have hcd36 := fun (nd_ : Nat) => own_string (P := Try.prog) Try.underlying28 Try.underlying5 Try.underlying9 (Kd.own_of_R (Kd.R_drewN HO160.out nd_))))
                  go_ret
                  exact ⟨by first | rfl | (simp [errW_none, errW_some] <;> rfl) | (simp only [← hji5, ← hji7]; first | rfl | (simp [errW_none, errW_some] <;> rfl)) | (simp [*, errW_none, errW_some] <;> rfl), by repeat (first | (with_reducible first | exact HB.out | apply below_alloc | apply pw_below_drewN | apply below_drew1 | refine below_set ?_ GE143.out | refine below_set ?_ GE153.out) | exact HB.out)⟩
                · rw [if_neg c25] at H
                  have c25b0 : ((t134 == t144 && (t135 == t145 && (t136 == t146 && (t137 == t147 && (t138 == t148 && (t139 == t149 && (t140 == t150 && (t141 == t151)))))))) == (a0 == a1)) = false := by simpa using c25
                  (try (have c25b1 : decide ((t134 == t144 && (t135 == t145 && (t136 == t146 && (t137 == t147 && (t138 == t148 && (t139 == t149 && (t140 == t150 && (t141 == t151)))))))) = (a0 == a1)) = false := by simpa using c25))
                  (try (have c25b2 : ((t134 == t144 && (t135 == t145 && (t136 == t146 && (t137 == t147 && (t138 == t148 && (t139 == t149 && (t140 == t150 && (t141 == t151)))))))) == (a0 == a1)) = false := by simpa using c25))
                  (try (have c25b3 : ¬ ((t134 == t144 && (t135 == t145 && (t136 == t146 && (t137 == t147 && (t138 == t148 && (t139 == t149 && (t140 == t150 && (t141 == t151)))))))) = (a0 == a1)) := by simpa using c25))
                  clear c25
                  exact absurd (Option.some.inj H) (by rw [hT]; decide)
              · rw [if_neg c24] at H
                have c24b0 : decide ((wrap64 (t134 - t141)) ≤ (wrap64 ((wrap64 (t144 - t151)) + 1))) = false := decide_eq_false c24
                clear c24
                exact absurd (Option.some.inj H) (by rw [hT]; decide)
            · rw [if_neg c23] at H
              have c23b0 : decide (t140 ≤ t150) = false := decide_eq_false c23
              clear c23
              exact absurd (Option.some.inj H) (by rw [hT]; decide)
          · rw [if_neg c22] at H
            have c22b0 : decide (t135 ≤ t145) = false := decide_eq_false c22
            clear c22
            exact absurd (Option.some.inj H) (by rw [hT]; decide)
  · replace c4 := Bool.eq_false_iff.mpr c4
    subst c4
    have H1 : (some false) = some r := by rw [if_neg (show ¬ (false = true) by decide)] at H; exact H
    clear H
    have H := H1
    clear H1
    exact absurd (Option.some.inj H) (by rw [hT]; decide)

/-- THE ONE PURE STATEMENT of undercroftlaw06_GeomGrows: yours. -/
def undercroftlaw06_GeomGrows.Pure : Prop := ∀ (a0 : Int) (a1 : Int), (Lit.int .i64 a0).wf = true → (Lit.int .i64 a1).wf = true → ∃ k, undercroftlaw06_GeomGrows.f k a0 a1 = some true
theorem undercroftlaw06_GeomGrows.walk (P : undercroftlaw06_GeomGrows.Pure) (a0 : Int) (a1 : Int) (w : World) (w0 : (Lit.int .i64 a0).wf = true) (w1 : (Lit.int .i64 a1).wf = true) :
    Calls Try.prog 3 #[.int .i64 a0, .int .i64 a1] w fun e w' => e = .returned (.bool true) ∧ Below w.heap.size w w' := by
  obtain ⟨k, h⟩ := P a0 a1 w0 w1
  refine (undercroftlaw06_GeomGrows.calls k a0 a1 true w h rfl).mono ?_
  rintro e w' ⟨rfl, hd⟩
  exact ⟨rfl, hd⟩

end Go.Proofs.Ytiaefbngegmpaaa.U
