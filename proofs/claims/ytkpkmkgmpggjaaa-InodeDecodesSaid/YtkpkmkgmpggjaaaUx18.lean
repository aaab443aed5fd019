/- Written by uprint.py (ours) for this seat: functions of the translation as Lean functions, and what their calls do. Not trusted: Lean checks it. -/
import Derived.Test.YtkpkmkgmpggjaaaUx0
import Derived.Test.YtkpkmkgmpggjaaaUx7
import Derived.Test.YtkpkmkgmpggjaaaUx8
import Derived.Test.YtkpkmkgmpggjaaaUx14
import Derived.Test.YtkpkmkgmpggjaaaUx17
namespace Go.Proofs.Ytkpkmkgmpggjaaa.U
open Go.RowKit Go.Proofs.YtkpkmkgmpggjaaaW.PrintWords Go.Proofs.YtkpkmkgmpggjaaaW.PrintLast Go.Proofs.YtkpkmkgmpggjaaaW.PrintMore
attribute [local go_sem] max2_int min2_int max_two min_two max_three min_three max_four min_four   -- for this text's walks alone
set_option linter.unusedVariables false
set_option linter.unusedSimpArgs false

/-! ### undercroftlaw09_InodeDecodes: function 4 -/
def undercroftlaw09_InodeDecodes.l0 : Nat → List Int → Int → Int → Int → Int → Int → Int → Bool → Int → List Int → Int → Int → Int → Bool → Int → List Int → Option (Bool)
  | 0, _, _, _, _, _, _, _, _, _, _, _, _, _, _, _, _ => none
  | k + 1, x5, x7, x9, x10, x298000, x298001, x298002, x298003, x298004, x298005, x308000, x308001, x308002, x308003, x308004, x308005 => if x10 < (x5.length : Int) then (if 0 ≤ x10 then (undercroftlaw09_InodeDecodes.l0 k (x5.set (x10 : Int).toNat (Go.bits .xor .u8 (rd x5 x10) 255)) x7 x9 (wrap64 (x10 + 1)) x298000 x298001 x298002 x298003 x298004 x298005 x308000 x308001 x308002 x308003 x308004 x308005) else (none)) else (if x7 = x9 then ((undercroftref09_Same.f x298000 x298001 x298002 x298003 x298004 x298005 x308000 x308001 x308002 x308003 x308004 x308005).bind fun t310 => (some t310)) else (some false))
def undercroftlaw09_InodeDecodes.f (k : Nat) (l0 : List Int) (a1 : Int) : Option (Bool) := (undercroftlaw09_alive.f k).bind fun t281 => (if t281 = true then ((some (([] : List Int) : List Int)).bind fun y282 => (if y282.length + l0.length < 140737488355328 then ((some (y282 ++ l0 : List Int)).bind fun y285 => ((inode_Decode.f k y285 a1).bind fun bt288 => ((undercroftref09_Decode.f k l0 a1).bind fun bt298 => (undercroftlaw09_InodeDecodes.l0 k y285 bt288.2.2.2.2.2.2 bt298.2.2.2.2.2.2 0 bt288.1 bt288.2.1 bt288.2.2.1 bt288.2.2.2.1 bt288.2.2.2.2.1 bt288.2.2.2.2.2.1 bt298.1 bt298.2.1 bt298.2.2.1 bt298.2.2.2.1 bt298.2.2.2.2.1 bt298.2.2.2.2.2.1)))) else (none))) else (some false))
theorem undercroftlaw09_InodeDecodes.mono_l : ∀ k, (∀ y0 y1 y2 y3 y4 y5 y6 y7 y8 y9 y10 y11 y12 y13 y14 y15, LeO (undercroftlaw09_InodeDecodes.l0 k y0 y1 y2 y3 y4 y5 y6 y7 y8 y9 y10 y11 y12 y13 y14 y15) (undercroftlaw09_InodeDecodes.l0 (k + 1) y0 y1 y2 y3 y4 y5 y6 y7 y8 y9 y10 y11 y12 y13 y14 y15))
  | 0 => fun _ _ _ _ _ _ _ _ _ _ _ _ _ _ _ _ r h => by simp [undercroftlaw09_InodeDecodes.l0] at h
  | k + 1 => by
    have ih0 := undercroftlaw09_InodeDecodes.mono_l k
    · intro y0 y1 y2 y3 y4 y5 y6 y7 y8 y9 y10 y11 y12 y13 y14 y15
      unfold undercroftlaw09_InodeDecodes.l0
      repeat' first
      | (with_reducible exact ih0 _ _ _ _ _ _ _ _ _ _ _ _ _ _ _ _)
      | (with_reducible exact inode_Decode.mono _ _ _)
      | (with_reducible exact undercroftlaw09_alive.mono _)
      | (with_reducible exact undercroftref09_Decode.mono _ _ _)
      | (with_reducible exact LeO.refl _)
      | (with_reducible exact LeO.none _)
      | (with_reducible refine LeO.ite ?_ ?_)
      | (with_reducible refine LeO.bind ?_ (fun _ => ?_))
      | exact ih0 _ _ _ _ _ _ _ _ _ _ _ _ _ _ _ _
      | exact inode_Decode.mono _ _ _
      | exact undercroftlaw09_alive.mono _
      | exact undercroftref09_Decode.mono _ _ _
      | exact LeO.none _
      | refine LeO.ite ?_ ?_
      | refine LeO.bind ?_ (fun _ => ?_)
theorem undercroftlaw09_InodeDecodes.mono : ∀ a0 a1 k, LeO (undercroftlaw09_InodeDecodes.f k a0 a1) (undercroftlaw09_InodeDecodes.f (k + 1) a0 a1) := by
  intro a0 a1 k
  have ih0 := undercroftlaw09_InodeDecodes.mono_l k
  unfold undercroftlaw09_InodeDecodes.f
  repeat' first
      | (with_reducible exact ih0 _ _ _ _ _ _ _ _ _ _ _ _ _ _ _ _)
      | (with_reducible exact inode_Decode.mono _ _ _)
      | (with_reducible exact undercroftlaw09_alive.mono _)
      | (with_reducible exact undercroftref09_Decode.mono _ _ _)
      | (with_reducible exact LeO.refl _)
      | (with_reducible exact LeO.none _)
      | (with_reducible refine LeO.ite ?_ ?_)
      | (with_reducible refine LeO.bind ?_ (fun _ => ?_))
      | exact ih0 _ _ _ _ _ _ _ _ _ _ _ _ _ _ _ _
      | exact inode_Decode.mono _ _ _
      | exact undercroftlaw09_alive.mono _
      | exact undercroftref09_Decode.mono _ _ _
      | exact LeO.none _
      | refine LeO.ite ?_ ?_
      | refine LeO.bind ?_ (fun _ => ?_)
set_option maxHeartbeats 8000000 in
set_option maxRecDepth 100000 in
theorem undercroftlaw09_InodeDecodes.calls (k : Nat) (A0 : Option Addr) (c0 : Nat) (l0 : List Int) (a1 : Int) (r : Bool) (w : World) (hr0 : Kd.C (Kd.int .u8) w A0 l0.length l0) (hc0 : l0.length ≤ c0) (h : undercroftlaw09_InodeDecodes.f k l0 a1 = some r) (hT : r = true) :
    Calls Try.prog 4 #[.slice A0 l0.length c0, .int .i64 a1] w fun e w' => e = .returned (.bool r) ∧ Below w.heap.size w w' := by
  have hu24 := Try.underlying24
  have HR0 := Aside0.mk hr0
  have HC0 := Aside0.mk hc0
  clear hr0 hc0
  have HB := Aside0.mk (Below.refl w.heap.size w)
  have H : ((undercroftlaw09_alive.f k).bind fun t281 => (if t281 = true then ((some (([] : List Int) : List Int)).bind fun y282 => (if y282.length + l0.length < 140737488355328 then ((some (y282 ++ l0 : List Int)).bind fun y285 => ((inode_Decode.f k y285 a1).bind fun bt288 => ((undercroftref09_Decode.f k l0 a1).bind fun bt298 => (undercroftlaw09_InodeDecodes.l0 k y285 bt288.2.2.2.2.2.2 bt298.2.2.2.2.2.2 0 bt288.1 bt288.2.1 bt288.2.2.1 bt288.2.2.2.1 bt288.2.2.2.2.1 bt288.2.2.2.2.2.1 bt298.1 bt298.2.1 bt298.2.2.1 bt298.2.2.2.1 bt298.2.2.2.2.1 bt298.2.2.2.2.2.1)))) else (none))) else (some false))) = some r := h
  clear h
  replace H := Option.bind_eq_some_iff.mp H
  obtain ⟨t281, A30, H⟩ := H
  replace H : (if t281 = true then ((some (([] : List Int) : List Int)).bind fun y282 => (if y282.length + l0.length < 140737488355328 then ((some (y282 ++ l0 : List Int)).bind fun y285 => ((inode_Decode.f k y285 a1).bind fun bt288 => ((undercroftref09_Decode.f k l0 a1).bind fun bt298 => (undercroftlaw09_InodeDecodes.l0 k y285 bt288.2.2.2.2.2.2 bt298.2.2.2.2.2.2 0 bt288.1 bt288.2.1 bt288.2.2.1 bt288.2.2.2.1 bt288.2.2.2.2.1 bt288.2.2.2.2.2.1 bt298.1 bt298.2.1 bt298.2.2.1 bt298.2.2.2.1 bt298.2.2.2.2.1 bt298.2.2.2.2.2.1)))) else (none))) else (some false)) = some r := H
  have A3 := Aside0.mk A30
  clear A30
  by_cases c4 : t281 = true
  · subst c4
    have H1 : ((some (([] : List Int) : List Int)).bind fun y282 => (if y282.length + l0.length < 140737488355328 then ((some (y282 ++ l0 : List Int)).bind fun y285 => ((inode_Decode.f k y285 a1).bind fun bt288 => ((undercroftref09_Decode.f k l0 a1).bind fun bt298 => (undercroftlaw09_InodeDecodes.l0 k y285 bt288.2.2.2.2.2.2 bt298.2.2.2.2.2.2 0 bt288.1 bt288.2.1 bt288.2.2.1 bt288.2.2.2.1 bt288.2.2.2.2.1 bt288.2.2.2.2.2.1 bt298.1 bt298.2.1 bt298.2.2.1 bt298.2.2.2.1 bt298.2.2.2.2.1 bt298.2.2.2.2.2.1)))) else (none))) = some r := by rw [if_pos rfl] at H; exact H
    clear H
    have H := H1
    clear H1
    obtain ⟨y282, hy282⟩ : ∃ y_ : List Int, y_ = (([] : List Int)) := ⟨_, rfl⟩
    replace H : (if y282.length + l0.length < 140737488355328 then ((some (y282 ++ l0 : List Int)).bind fun y285 => ((inode_Decode.f k y285 a1).bind fun bt288 => ((undercroftref09_Decode.f k l0 a1).bind fun bt298 => (undercroftlaw09_InodeDecodes.l0 k y285 bt288.2.2.2.2.2.2 bt298.2.2.2.2.2.2 0 bt288.1 bt288.2.1 bt288.2.2.1 bt288.2.2.2.1 bt288.2.2.2.2.1 bt288.2.2.2.2.2.1 bt298.1 bt298.2.1 bt298.2.2.1 bt298.2.2.2.1 bt298.2.2.2.2.1 bt298.2.2.2.2.2.1)))) else (none)) = some r := by first | (rw [hy282]; with_reducible exact H) | (have H2_ := (Option.bind_some _ _).symm.trans H; rw [hy282]; with_reducible exact H2_) | (have H2_ := (Option.bind_some _ _).symm.trans H; with_reducible exact H2_) | with_reducible exact H | (rw [hy282]; exact H) | exact H
    have Ny282 := Aside0.mk hy282
    clear hy282
    by_cases c5 : y282.length + l0.length < 140737488355328
    rotate_left
    · rw [if_neg c5] at H
      exact absurd H (by simp)
    rw [if_pos c5] at H
    have LMc5 := Aside0.mk c5
    clear c5
    obtain ⟨y285, hy285⟩ : ∃ y_ : List Int, y_ = (y282 ++ l0) := ⟨_, rfl⟩
    replace H : ((inode_Decode.f k y285 a1).bind fun bt288 => ((undercroftref09_Decode.f k l0 a1).bind fun bt298 => (undercroftlaw09_InodeDecodes.l0 k y285 bt288.2.2.2.2.2.2 bt298.2.2.2.2.2.2 0 bt288.1 bt288.2.1 bt288.2.2.1 bt288.2.2.2.1 bt288.2.2.2.2.1 bt288.2.2.2.2.2.1 bt298.1 bt298.2.1 bt298.2.2.1 bt298.2.2.2.1 bt298.2.2.2.2.1 bt298.2.2.2.2.2.1))) = some r := by first | (rw [hy285]; with_reducible exact H) | (have H2_ := (Option.bind_some _ _).symm.trans H; rw [hy285]; with_reducible exact H2_) | (have H2_ := (Option.bind_some _ _).symm.trans H; with_reducible exact H2_) | with_reducible exact H | (rw [hy285]; exact H) | exact H
    have Ny285 := Aside0.mk hy285
    clear hy285
    replace H := Option.bind_eq_some_iff.mp H
    obtain ⟨⟨t288, t289, t290, t291, t292, t293, t296⟩, A60, H⟩ := H
    replace H : ((undercroftref09_Decode.f k l0 a1).bind fun bt298 => (undercroftlaw09_InodeDecodes.l0 k y285 t296 bt298.2.2.2.2.2.2 0 t288 t289 t290 t291 t292 t293 bt298.1 bt298.2.1 bt298.2.2.1 bt298.2.2.2.1 bt298.2.2.2.2.1 bt298.2.2.2.2.2.1)) = some r := H
    have A6 := Aside0.mk A60
    clear A60
    replace H := Option.bind_eq_some_iff.mp H
    obtain ⟨⟨t298, t299, t300, t301, t302, t303, t306⟩, A70, H⟩ := H
    replace H : (undercroftlaw09_InodeDecodes.l0 k y285 t296 t306 0 t288 t289 t290 t291 t292 t293 t298 t299 t300 t301 t302 t303) = some r := H
    have A7 := Aside0.mk A70
    clear A70
    have H' := Aside0.mk H
    clear H
    go_enter Try.func4, Try.ntmps4
    go_wp2_with (first | ((with_reducible refine gate_callee (f := 8) rfl ?_); refine goesL_ (some 11) rfl rfl Try.func8 (by kernel_rfl) rfl #[] rfl (by (try simp only [List.map_toArray, List.map_cons, List.map_nil]); first | done | rfl | (simp only [List.length_drop, List.length_take]; rfl)) ?_; (with_reducible refine (undercroftlaw09_alive.calls k  true _ A3.out rfl).mono ?_); rintro e w8 ⟨rfl, hb⟩; refine ⟨_, rfl, ?_⟩; have n0_ := Aside0.mk (below_step (by repeat (first | (with_reducible first | exact HB.out | apply below_alloc | apply pw_below_drewN | apply below_drew1) | exact HB.out)) hb); clear HB; have HB := n0_; clear n0_; (try clear hb); (try clear hb2); (try clear hk); (try clear hi)) | ((with_reducible refine gate_dst (N := 13) rfl ?_); refine Kd.R_lit (Kd.int .u8) _ 5 ?hg (N := 13) ?hd (xs := ([] : List Int)) (inner := []) (ok := fun _ => True) (okp := fun _ => True) ?hr ?hp (fun _ hk => hk) trivial (Below.refl _ _) (Nat.le_refl _) (by simp) ?_; (case hd => rfl); (case hg => rfl); (case hr => go_simp; first | done | rfl); (case hp => exact (Reps.none _ _)); intro v283 w9 ho10 hb hg_ hnew_; clear hg_ hnew_; (first | rw [← Ny282.out] at ho10 | (simp only [Int.reduceToNat] at ho10; rw [← Ny282.out] at ho10)); have n0_ := Aside0.mk (Kd.R_lower ho10 (below_size (by repeat (first | (with_reducible first | exact HB.out | apply below_alloc | apply pw_below_drewN | apply below_drew1) | exact HB.out)))); have n1_ := Aside0.mk (below_step (by repeat (first | (with_reducible first | exact HB.out | apply below_alloc | apply pw_below_drewN | apply below_drew1) | exact HB.out)) hb); clear HB; have HO284 := n0_; have HB := n1_; clear n0_ n1_; clear hb ho10) | ((with_reducible refine gate_builtin (b := .append) (xs := #[.tmp 13, .tmp 14]) rfl ?_); at_builtin; refine Kd.R_append_rows (Kd.int .u8) (w0 := w) w.heap.size rfl (.tmp 13) (.tmp 14) 22 5 (.int .u8 0) 1 rfl Try.underlying22 info5 rfl (by decide) (by omega) v283 y282 l0 _ _ _ (fun _ => True) (fun _ => False) rfl rfl ?aO ?aR (fun _ _ h => h) (fun _ h => h.elim) ?aF ?aB ?aS ?aL ?_; (case aR => repeat (first | exact (Kd.C_below HR0.out HB.out) | (with_reducible refine Kd.C_alloc ?_ _) | (with_reducible refine Kd.C_drewN ?_ _) | (with_reducible refine Kd.C_drew ?_))); (case aB => exact (by repeat (first | (with_reducible first | exact HB.out | apply below_alloc | apply pw_below_drewN | apply below_drew1) | exact HB.out))); (case aF => exact (fun _ _ => trivial)); (case aO => exact (by (with_reducible repeat (first | apply Kd.R_alloc | apply Kd.R_drewN | apply Kd.R_drew)); exact HO284.out)); (case aS => exact (below_size (by repeat (first | (with_reducible first | exact HB.out | apply below_alloc | apply pw_below_drewN | apply below_drew1) | exact HB.out)))); (case aL => have := LMc5.out; omega); intro v286 w11 ho hb hg hat; rw [← Ny285.out] at ho; have n0_ := Aside0.mk (hb); have n1_ := Aside0.mk (ho); clear HB; clear HO284; have HB := n0_; have HO287 := n1_; clear n0_ n1_; clear ho hb hg hat; obtain ⟨Ao12, co12, eo12⟩ := Kd.R_slice HO287.out; subst eo12) | ((with_reducible refine gate_callee (f := 15) rfl ?_); refine goesL_ (some 19) rfl rfl Try.func15 (by kernel_rfl) rfl #[.slice Ao12 y285.length co12, .int .i64 a1] rfl (by (try simp only [List.map_toArray, List.map_cons, List.map_nil]); first | done | rfl | (simp only [List.length_drop, List.length_take]; rfl)) ?_; (with_reducible refine (inode_Decode.calls k _ _ y285 a1 t288 t289 t290 t291 t292 t293 t296 _ ?side1 ?side2 A6.out).mono ?_); (case side1 => repeat (first | exact (Kd.R_reads' HO287.out).2.2 | (with_reducible refine Kd.C_alloc ?_ _) | (with_reducible refine Kd.C_drewN ?_ _) | (with_reducible refine Kd.C_drew ?_))); (case side2 => exact (Kd.R_reads' HO287.out).2.1); rintro e w13 ⟨v294, rfl, ho0, hb⟩; refine ⟨_, rfl, ?_⟩; have n0_ := Aside0.mk (Kd.R_elder' (by (with_reducible repeat (first | apply Kd.R_alloc | apply Kd.R_drewN | apply Kd.R_drew)); exact HO287.out) (Kd.R_base ho0) hb); have n1_ := Aside0.mk (Kd.R_lower (Kd.R_new' ho0 (Kd.R_lt (by (with_reducible repeat (first | apply Kd.R_alloc | apply Kd.R_drewN | apply Kd.R_drew)); exact HO287.out))) (below_size (by repeat (first | (with_reducible first | exact HB.out | apply below_alloc | apply pw_below_drewN | apply below_drew1) | exact HB.out)))); have n2_ := Aside0.mk (below_step (by repeat (first | (with_reducible first | exact HB.out | apply below_alloc | apply pw_below_drewN | apply below_drew1) | exact HB.out)) hb); clear HO287; clear HB; have HO287 := n0_; have HO295 := n1_; have HB := n2_; clear n0_ n1_ n2_; (try clear hb); (try clear hb2); (try clear hk); (try clear hi); (try clear ho0)) | ((with_reducible refine gate_dst (N := 6) rfl ?_); refine box_event ?hg (N := 6) ?hd (cs := #[.int .i64 0, .int .i64 0, .int .i64 0, .bool false, .int .i64 0, .slice none 0 0]) (t := 24) ?hr ?_; (case hd => rfl); (case hg => rfl); (case hr => go_simp; first | done | rfl); intro gb297 hg w14 hbox hb; have n0_ := Aside0.mk (Kd.R_below (by (with_reducible repeat (first | apply Kd.R_alloc | apply Kd.R_drewN | apply Kd.R_drew)); exact HO287.out) hb); have n1_ := Aside0.mk (Kd.R_below (by (with_reducible repeat (first | apply Kd.R_alloc | apply Kd.R_drewN | apply Kd.R_drew)); exact HO295.out) hb); have n2_ := Aside0.mk (below_step (by repeat (first | (with_reducible first | exact HB.out | apply below_alloc | apply pw_below_drewN | apply below_drew1) | exact HB.out)) hb); have n3_ := Aside0.mk (hbox); have n4_ := Aside0.mk ((by rw [hg]; exact (below_size (by repeat (first | (with_reducible first | exact HB.out | apply below_alloc | apply pw_below_drewN | apply below_drew1) | exact HB.out))) : w.heap.size ≤ gb297)); have n5_ := Aside0.mk ((by rw [hg]; exact (below_size (by repeat (first | (with_reducible first | exact HB.out | apply below_alloc | apply pw_below_drewN | apply below_drew1) | exact HB.out))) : w.heap.size ≤ gb297)); clear HO287; clear HO295; clear HB; have HO287 := n0_; have HO295 := n1_; have HB := n2_; have BK297 := n3_; have GW297 := n4_; have GE297 := n5_; clear n0_ n1_ n2_ n3_ n4_ n5_; clear hb hbox hg; have hcz15_0 : w14.cell? ⟨gb297, 0, none⟩ = some (.int .i64 0) := (blk_cell BK297.out 0).trans rfl; have hcz15_1 : w14.cell? ⟨gb297, 1, none⟩ = some (.int .i64 0) := (blk_cell BK297.out 1).trans rfl; have hcz15_2 : w14.cell? ⟨gb297, 2, none⟩ = some (.int .i64 0) := (blk_cell BK297.out 2).trans rfl; have hcz15_3 : w14.cell? ⟨gb297, 3, none⟩ = some (.bool false) := (blk_cell BK297.out 3).trans rfl; have hcz15_4 : w14.cell? ⟨gb297, 4, none⟩ = some (.int .i64 0) := (blk_cell BK297.out 4).trans rfl; have hcz15_5 : w14.cell? ⟨gb297, 5, none⟩ = some (.slice none 0 0) := (blk_cell BK297.out 5).trans rfl; have hfz15_0 := blk_frozen BK297.out 0; have hfz15_1 := blk_frozen BK297.out 1; have hfz15_2 := blk_frozen BK297.out 2; have hfz15_3 := blk_frozen BK297.out 3; have hfz15_4 := blk_frozen BK297.out 4; have hfz15_5 := blk_frozen BK297.out 5; obtain ⟨Ao16, co16, eo16⟩ := Kd.R_slice HO295.out; subst eo16) | ((with_reducible refine gate_callee (f := 16) rfl ?_); refine goesL_ (some 25) rfl rfl Try.func16 (by kernel_rfl) rfl #[.slice A0 l0.length c0, .int .i64 a1] rfl (by (try simp only [List.map_toArray, List.map_cons, List.map_nil]); first | done | rfl | (simp only [List.length_drop, List.length_take]; rfl)) ?_; (with_reducible refine (undercroftref09_Decode.calls k _ _ l0 a1 t298 t299 t300 t301 t302 t303 t306 _ ?side1 ?side2 A7.out).mono ?_); (case side1 => exact Kd.C_below HR0.out (by repeat (first | (with_reducible first | exact HB.out | apply below_alloc | apply pw_below_drewN | apply below_drew1 | refine below_set ?_ GE297.out) | exact HB.out))); (case side2 => exact HC0.out); rintro e w17 ⟨v304, rfl, ho0, hb⟩; refine ⟨_, rfl, ?_⟩; have n0_ := Aside0.mk (Kd.R_elder' (by (with_reducible repeat (first | apply Kd.R_alloc | apply Kd.R_drewN | apply Kd.R_drew)); exact (Kd.R_mono (Kd.R_far (p := ⟨gb297, 5, none⟩) (Kd.R_far (p := ⟨gb297, 4, none⟩) (Kd.R_far (p := ⟨gb297, 3, none⟩) (Kd.R_far (p := ⟨gb297, 2, none⟩) (Kd.R_far (p := ⟨gb297, 1, none⟩) (Kd.R_far (p := ⟨gb297, 0, none⟩) (Kd.R_types HO287.out BK297.out (by decide)) (fun _ hk => hk.2) (.int .i64 t288)) (fun _ hk => hk.2) (.int .i64 t289)) (fun _ hk => hk.2) (.int .i64 t290)) (fun _ hk => hk.2) (.bool t291)) (fun _ hk => hk.2) (.int .i64 t292)) (fun _ hk => hk.2) (.slice Ao16 t293.length co16)) (fun _ h_ => h_.1))) (Kd.R_base ho0) hb); have n1_ := Aside0.mk (Kd.R_elder' (by (with_reducible repeat (first | apply Kd.R_alloc | apply Kd.R_drewN | apply Kd.R_drew)); exact (Kd.R_mono (Kd.R_far (p := ⟨gb297, 5, none⟩) (Kd.R_far (p := ⟨gb297, 4, none⟩) (Kd.R_far (p := ⟨gb297, 3, none⟩) (Kd.R_far (p := ⟨gb297, 2, none⟩) (Kd.R_far (p := ⟨gb297, 1, none⟩) (Kd.R_far (p := ⟨gb297, 0, none⟩) (Kd.R_types HO295.out BK297.out (by decide)) (fun _ hk => hk.2) (.int .i64 t288)) (fun _ hk => hk.2) (.int .i64 t289)) (fun _ hk => hk.2) (.int .i64 t290)) (fun _ hk => hk.2) (.bool t291)) (fun _ hk => hk.2) (.int .i64 t292)) (fun _ hk => hk.2) (.slice Ao16 t293.length co16)) (fun _ h_ => h_.1))) (Kd.R_base ho0) hb); have n2_ := Aside0.mk (Kd.R_lower (Kd.R_new' (Kd.R_new' ho0 (Kd.R_lt (by (with_reducible repeat (first | apply Kd.R_alloc | apply Kd.R_drewN | apply Kd.R_drew)); exact (Kd.R_mono (Kd.R_far (p := ⟨gb297, 5, none⟩) (Kd.R_far (p := ⟨gb297, 4, none⟩) (Kd.R_far (p := ⟨gb297, 3, none⟩) (Kd.R_far (p := ⟨gb297, 2, none⟩) (Kd.R_far (p := ⟨gb297, 1, none⟩) (Kd.R_far (p := ⟨gb297, 0, none⟩) (Kd.R_types HO287.out BK297.out (by decide)) (fun _ hk => hk.2) (.int .i64 t288)) (fun _ hk => hk.2) (.int .i64 t289)) (fun _ hk => hk.2) (.int .i64 t290)) (fun _ hk => hk.2) (.bool t291)) (fun _ hk => hk.2) (.int .i64 t292)) (fun _ hk => hk.2) (.slice Ao16 t293.length co16)) (fun _ h_ => h_.1))))) (Kd.R_lt (by (with_reducible repeat (first | apply Kd.R_alloc | apply Kd.R_drewN | apply Kd.R_drew)); exact (Kd.R_mono (Kd.R_far (p := ⟨gb297, 5, none⟩) (Kd.R_far (p := ⟨gb297, 4, none⟩) (Kd.R_far (p := ⟨gb297, 3, none⟩) (Kd.R_far (p := ⟨gb297, 2, none⟩) (Kd.R_far (p := ⟨gb297, 1, none⟩) (Kd.R_far (p := ⟨gb297, 0, none⟩) (Kd.R_types HO295.out BK297.out (by decide)) (fun _ hk => hk.2) (.int .i64 t288)) (fun _ hk => hk.2) (.int .i64 t289)) (fun _ hk => hk.2) (.int .i64 t290)) (fun _ hk => hk.2) (.bool t291)) (fun _ hk => hk.2) (.int .i64 t292)) (fun _ hk => hk.2) (.slice Ao16 t293.length co16)) (fun _ h_ => h_.1))))) (below_size (by repeat (first | (with_reducible first | exact HB.out | apply below_alloc | apply pw_below_drewN | apply below_drew1 | refine below_set ?_ GE297.out) | exact HB.out)))); have n3_ := Aside0.mk (blk_below (g := gb297) (o := .cells #[.int .i64 t288, .int .i64 t289, .int .i64 t290, .bool t291, .int .i64 t292, .slice Ao16 t293.length co16] 24 (0, 0)) (by (with_reducible repeat (first | refine blk_drewN ?_ _ | refine blk_drew ?_ | refine blk_alloc ?_ _)); refine blk_put (cs := #[.int .i64 t288, .int .i64 t289, .int .i64 t290, .bool t291, .int .i64 t292, .slice none 0 0]) ?_ 5 _ rfl; (with_reducible repeat (first | refine blk_drewN ?_ _ | refine blk_drew ?_ | refine blk_alloc ?_ _)); refine blk_put (cs := #[.int .i64 t288, .int .i64 t289, .int .i64 t290, .bool t291, .int .i64 0, .slice none 0 0]) ?_ 4 _ rfl; (with_reducible repeat (first | refine blk_drewN ?_ _ | refine blk_drew ?_ | refine blk_alloc ?_ _)); refine blk_put (cs := #[.int .i64 t288, .int .i64 t289, .int .i64 t290, .bool false, .int .i64 0, .slice none 0 0]) ?_ 3 _ rfl; (with_reducible repeat (first | refine blk_drewN ?_ _ | refine blk_drew ?_ | refine blk_alloc ?_ _)); refine blk_put (cs := #[.int .i64 t288, .int .i64 t289, .int .i64 0, .bool false, .int .i64 0, .slice none 0 0]) ?_ 2 _ rfl; (with_reducible repeat (first | refine blk_drewN ?_ _ | refine blk_drew ?_ | refine blk_alloc ?_ _)); refine blk_put (cs := #[.int .i64 t288, .int .i64 0, .int .i64 0, .bool false, .int .i64 0, .slice none 0 0]) ?_ 1 _ rfl; (with_reducible repeat (first | refine blk_drewN ?_ _ | refine blk_drew ?_ | refine blk_alloc ?_ _)); refine blk_put (cs := #[.int .i64 0, .int .i64 0, .int .i64 0, .bool false, .int .i64 0, .slice none 0 0]) ?_ 0 _ rfl; (with_reducible repeat (first | refine blk_drewN ?_ _ | refine blk_drew ?_ | refine blk_alloc ?_ _)); exact BK297.out) hb); have n4_ := Aside0.mk (below_step (by repeat (first | (with_reducible first | exact HB.out | apply below_alloc | apply pw_below_drewN | apply below_drew1 | refine below_set ?_ GE297.out) | exact HB.out)) hb); clear HO287; clear HO295; clear BK297; clear HB; have HO287 := n0_; have HO295 := n1_; have HO305 := n2_; have BK297 := n3_; have HB := n4_; clear n0_ n1_ n2_ n3_ n4_; (try clear hb); (try clear hb2); (try clear hk); (try clear hi); (try clear ho0)) | ((with_reducible refine gate_dst (N := 8) rfl ?_); refine box_event ?hg (N := 8) ?hd (cs := #[.int .i64 0, .int .i64 0, .int .i64 0, .bool false, .int .i64 0, .slice none 0 0]) (t := 24) ?hr ?_; (case hd => rfl); (case hg => rfl); (case hr => go_simp; first | done | rfl); intro gb307 hg w18 hbox hb; have n0_ := Aside0.mk (Kd.R_below (by (with_reducible repeat (first | apply Kd.R_alloc | apply Kd.R_drewN | apply Kd.R_drew)); exact HO287.out) hb); have n1_ := Aside0.mk (Kd.R_below (by (with_reducible repeat (first | apply Kd.R_alloc | apply Kd.R_drewN | apply Kd.R_drew)); exact HO295.out) hb); have n2_ := Aside0.mk (Kd.R_below (by (with_reducible repeat (first | apply Kd.R_alloc | apply Kd.R_drewN | apply Kd.R_drew)); exact HO305.out) hb); have n3_ := Aside0.mk (blk_below (g := gb297) (o := .cells #[.int .i64 t288, .int .i64 t289, .int .i64 t290, .bool t291, .int .i64 t292, .slice Ao16 t293.length co16] 24 (0, 0)) (by (with_reducible repeat (first | refine blk_drewN ?_ _ | refine blk_drew ?_ | refine blk_alloc ?_ _)); exact BK297.out) hb); have n4_ := Aside0.mk (below_step (by repeat (first | (with_reducible first | exact HB.out | apply below_alloc | apply pw_below_drewN | apply below_drew1 | refine below_set ?_ GE297.out) | exact HB.out)) hb); have n5_ := Aside0.mk (hbox); have n6_ := Aside0.mk ((by rw [hg]; exact (below_size (by repeat (first | (with_reducible first | exact HB.out | apply below_alloc | apply pw_below_drewN | apply below_drew1 | refine below_set ?_ GE297.out) | exact HB.out))) : w.heap.size ≤ gb307)); have n7_ := Aside0.mk ((by rw [hg]; exact (below_size (by repeat (first | (with_reducible first | exact HB.out | apply below_alloc | apply pw_below_drewN | apply below_drew1 | refine below_set ?_ GE297.out) | exact HB.out))) : w.heap.size ≤ gb307)); have n8_ := Aside0.mk ((by rw [hg]; exact Nat.ne_of_lt (blk_lt (g := gb297) (o := .cells #[.int .i64 t288, .int .i64 t289, .int .i64 t290, .bool t291, .int .i64 t292, .slice Ao16 t293.length co16] 24 (0, 0)) (by (with_reducible repeat (first | refine blk_drewN ?_ _ | refine blk_drew ?_ | refine blk_alloc ?_ _)); exact BK297.out)) : gb297 ≠ gb307)); have n9_ := Aside0.mk ((by rw [hg]; exact Nat.ne_of_gt (blk_lt (g := gb297) (o := .cells #[.int .i64 t288, .int .i64 t289, .int .i64 t290, .bool t291, .int .i64 t292, .slice Ao16 t293.length co16] 24 (0, 0)) (by (with_reducible repeat (first | refine blk_drewN ?_ _ | refine blk_drew ?_ | refine blk_alloc ?_ _)); exact BK297.out)) : gb307 ≠ gb297)); clear HO287; clear HO295; clear HO305; clear BK297; clear HB; have HO287 := n0_; have HO295 := n1_; have HO305 := n2_; have BK297 := n3_; have HB := n4_; have BK307 := n5_; have GW307 := n6_; have GE307 := n7_; have NB297_307 := n8_; have NB307_297 := n9_; clear n0_ n1_ n2_ n3_ n4_ n5_ n6_ n7_ n8_ n9_; clear hb hbox hg; have hnb19 := NB307_297.out; have hnc19 := NB297_307.out; have hcz20_0 : w18.cell? ⟨gb307, 0, none⟩ = some (.int .i64 0) := (blk_cell BK307.out 0).trans rfl; have hcz20_1 : w18.cell? ⟨gb307, 1, none⟩ = some (.int .i64 0) := (blk_cell BK307.out 1).trans rfl; have hcz20_2 : w18.cell? ⟨gb307, 2, none⟩ = some (.int .i64 0) := (blk_cell BK307.out 2).trans rfl; have hcz20_3 : w18.cell? ⟨gb307, 3, none⟩ = some (.bool false) := (blk_cell BK307.out 3).trans rfl; have hcz20_4 : w18.cell? ⟨gb307, 4, none⟩ = some (.int .i64 0) := (blk_cell BK307.out 4).trans rfl; have hcz20_5 : w18.cell? ⟨gb307, 5, none⟩ = some (.slice none 0 0) := (blk_cell BK307.out 5).trans rfl; have hfz20_0 := blk_frozen BK307.out 0; have hfz20_1 := blk_frozen BK307.out 1; have hfz20_2 := blk_frozen BK307.out 2; have hfz20_3 := blk_frozen BK307.out 3; have hfz20_4 := blk_frozen BK307.out 4; have hfz20_5 := blk_frozen BK307.out 5; obtain ⟨Ao21, co21, eo21⟩ := Kd.R_slice HO305.out; subst eo21))
    go_loopg [10] k (fun kq v10 w' => ∃ (x5_1 : List Int) (x10_1 : Int), v10 = .int .i64 x10_1 ∧ Aside0 (undercroftlaw09_InodeDecodes.l0 kq x5_1 t296 t306 x10_1 t288 t289 t290 t291 t292 t293 t298 t299 t300 t301 t302 t303 = some r) ∧ Aside0 (kq ≤ k) ∧ Aside0 (Kd.R (Kd.int .u8) 5 w' w.heap.size (fun k_ => some k_ ≠ ((.slice Ao16 t293.length co16) : Value).ownBlock ∧ some k_ ≠ ((.slice Ao21 t303.length co21) : Value).ownBlock) (.slice Ao12 y285.length co12) x5_1) ∧ Aside0 (Kd.R (Kd.int .u8) 5 w' w.heap.size (fun k_ => some k_ ≠ ((.slice Ao12 y285.length co12) : Value).ownBlock ∧ some k_ ≠ ((.slice Ao21 t303.length co21) : Value).ownBlock) (.slice Ao16 t293.length co16) t293) ∧ Aside0 (Kd.R (Kd.int .u8) 5 w' w.heap.size (fun k_ => some k_ ≠ ((.slice Ao12 y285.length co12) : Value).ownBlock ∧ some k_ ≠ ((.slice Ao16 t293.length co16) : Value).ownBlock) (.slice Ao21 t303.length co21) t303) ∧ Aside0 (w'.heap[gb297]? = some (.cells #[.int .i64 t288, .int .i64 t289, .int .i64 t290, .bool t291, .int .i64 t292, (.slice Ao16 t293.length co16)] 24 (0, 0))) ∧ Aside0 (w'.heap[gb307]? = some (.cells #[.int .i64 t298, .int .i64 t299, .int .i64 t300, .bool t301, .int .i64 t302, (.slice Ao21 t303.length co21)] 24 (0, 0))) ∧ Aside0 (Below w.heap.size w w'))
    case atStart => exact ⟨(y285), (0), (by first | rfl | (simp; done) | (simp [*]; done)), H', ⟨Nat.le_refl _⟩, ⟨by (with_reducible repeat (first | apply Kd.R_alloc | apply Kd.R_drewN | apply Kd.R_drew)); exact Kd.R_mono (Kd.R_far (p := ⟨gb307, 5, none⟩) (Kd.R_far (p := ⟨gb307, 4, none⟩) (Kd.R_far (p := ⟨gb307, 3, none⟩) (Kd.R_far (p := ⟨gb307, 2, none⟩) (Kd.R_far (p := ⟨gb307, 1, none⟩) (Kd.R_far (p := ⟨gb307, 0, none⟩) (Kd.R_types HO287.out BK307.out (by decide)) (fun _ hk => hk.2) (.int .i64 t298)) (fun _ hk => hk.2) (.int .i64 t299)) (fun _ hk => hk.2) (.int .i64 t300)) (fun _ hk => hk.2) (.bool t301)) (fun _ hk => hk.2) (.int .i64 t302)) (fun _ hk => hk.2) (.slice Ao21 t303.length co21)) (fun _ hk => ⟨hk.1.1.2, hk.1.2⟩)⟩, ⟨by (with_reducible repeat (first | apply Kd.R_alloc | apply Kd.R_drewN | apply Kd.R_drew)); exact Kd.R_mono (Kd.R_far (p := ⟨gb307, 5, none⟩) (Kd.R_far (p := ⟨gb307, 4, none⟩) (Kd.R_far (p := ⟨gb307, 3, none⟩) (Kd.R_far (p := ⟨gb307, 2, none⟩) (Kd.R_far (p := ⟨gb307, 1, none⟩) (Kd.R_far (p := ⟨gb307, 0, none⟩) (Kd.R_types HO295.out BK307.out (by decide)) (fun _ hk => hk.2) (.int .i64 t298)) (fun _ hk => hk.2) (.int .i64 t299)) (fun _ hk => hk.2) (.int .i64 t300)) (fun _ hk => hk.2) (.bool t301)) (fun _ hk => hk.2) (.int .i64 t302)) (fun _ hk => hk.2) (.slice Ao21 t303.length co21)) (fun _ hk => ⟨hk.1.1.2, hk.1.2⟩)⟩, ⟨by (with_reducible repeat (first | apply Kd.R_alloc | apply Kd.R_drewN | apply Kd.R_drew)); exact Kd.R_mono (Kd.R_far (p := ⟨gb307, 5, none⟩) (Kd.R_far (p := ⟨gb307, 4, none⟩) (Kd.R_far (p := ⟨gb307, 3, none⟩) (Kd.R_far (p := ⟨gb307, 2, none⟩) (Kd.R_far (p := ⟨gb307, 1, none⟩) (Kd.R_far (p := ⟨gb307, 0, none⟩) (Kd.R_types HO305.out BK307.out (by decide)) (fun _ hk => hk.2) (.int .i64 t298)) (fun _ hk => hk.2) (.int .i64 t299)) (fun _ hk => hk.2) (.int .i64 t300)) (fun _ hk => hk.2) (.bool t301)) (fun _ hk => hk.2) (.int .i64 t302)) (fun _ hk => hk.2) (.slice Ao21 t303.length co21)) (fun _ hk => ⟨hk.1.1.2, hk.1.2⟩)⟩, ⟨by (with_reducible repeat (first | refine blk_drewN ?_ _ | refine blk_drew ?_ | refine blk_alloc ?_ _)); refine blk_far ?_ NB297_307.out _; (with_reducible repeat (first | refine blk_drewN ?_ _ | refine blk_drew ?_ | refine blk_alloc ?_ _)); refine blk_far ?_ NB297_307.out _; (with_reducible repeat (first | refine blk_drewN ?_ _ | refine blk_drew ?_ | refine blk_alloc ?_ _)); refine blk_far ?_ NB297_307.out _; (with_reducible repeat (first | refine blk_drewN ?_ _ | refine blk_drew ?_ | refine blk_alloc ?_ _)); refine blk_far ?_ NB297_307.out _; (with_reducible repeat (first | refine blk_drewN ?_ _ | refine blk_drew ?_ | refine blk_alloc ?_ _)); refine blk_far ?_ NB297_307.out _; (with_reducible repeat (first | refine blk_drewN ?_ _ | refine blk_drew ?_ | refine blk_alloc ?_ _)); refine blk_far ?_ NB297_307.out _; (with_reducible repeat (first | refine blk_drewN ?_ _ | refine blk_drew ?_ | refine blk_alloc ?_ _)); exact BK297.out⟩, ⟨by (with_reducible repeat (first | refine blk_drewN ?_ _ | refine blk_drew ?_ | refine blk_alloc ?_ _)); refine blk_put (cs := #[.int .i64 t298, .int .i64 t299, .int .i64 t300, .bool t301, .int .i64 t302, .slice none 0 0]) ?_ 5 _ rfl; (with_reducible repeat (first | refine blk_drewN ?_ _ | refine blk_drew ?_ | refine blk_alloc ?_ _)); refine blk_put (cs := #[.int .i64 t298, .int .i64 t299, .int .i64 t300, .bool t301, .int .i64 0, .slice none 0 0]) ?_ 4 _ rfl; (with_reducible repeat (first | refine blk_drewN ?_ _ | refine blk_drew ?_ | refine blk_alloc ?_ _)); refine blk_put (cs := #[.int .i64 t298, .int .i64 t299, .int .i64 t300, .bool false, .int .i64 0, .slice none 0 0]) ?_ 3 _ rfl; (with_reducible repeat (first | refine blk_drewN ?_ _ | refine blk_drew ?_ | refine blk_alloc ?_ _)); refine blk_put (cs := #[.int .i64 t298, .int .i64 t299, .int .i64 0, .bool false, .int .i64 0, .slice none 0 0]) ?_ 2 _ rfl; (with_reducible repeat (first | refine blk_drewN ?_ _ | refine blk_drew ?_ | refine blk_alloc ?_ _)); refine blk_put (cs := #[.int .i64 t298, .int .i64 0, .int .i64 0, .bool false, .int .i64 0, .slice none 0 0]) ?_ 1 _ rfl; (with_reducible repeat (first | refine blk_drewN ?_ _ | refine blk_drew ?_ | refine blk_alloc ?_ _)); refine blk_put (cs := #[.int .i64 0, .int .i64 0, .int .i64 0, .bool false, .int .i64 0, .slice none 0 0]) ?_ 0 _ rfl; (with_reducible repeat (first | refine blk_drewN ?_ _ | refine blk_drew ?_ | refine blk_alloc ?_ _)); exact BK307.out⟩, ⟨by repeat (first | (with_reducible first | exact HB.out | apply below_alloc | apply pw_below_drewN | apply below_drew1 | refine below_set ?_ GE297.out | refine below_set ?_ GE307.out) | exact HB.out)⟩⟩
    case round =>
      clear H'
      try clear c1
      try clear p2
      try clear c4
      try clear c5
      try clear c8
      try clear c15
      try clear c16
      try clear c19
      try clear hcz15_0
      try clear hcz15_1
      try clear hcz15_2
      try clear hcz15_3
      try clear hcz15_4
      try clear hcz15_5
      try clear hcz20_0
      try clear hcz20_1
      try clear hcz20_2
      try clear hcz20_3
      try clear hcz20_4
      try clear hcz20_5
      try clear hfz15_0
      try clear hfz15_1
      try clear hfz15_2
      try clear hfz15_3
      try clear hfz15_4
      try clear hfz15_5
      try clear hfz20_0
      try clear hfz20_1
      try clear hfz20_2
      try clear hfz20_3
      try clear hfz20_4
      try clear hfz20_5
      obtain ⟨x5_1, x10_1, rfl, HA, HK1, HO_5, HO_298005, HO_308005, BK297, BK307, HB⟩ := hrel
      have hl5_1 := (Kd.R_reads' HO_5.out).1
      rw [hl5_1] at HO_5
      (try simp only [hl5_1])
      (try simp only [hl5_1] at BK297)
      (try simp only [hl5_1] at BK307)
      (try simp only [hl5_1] at HO_298005)
      (try simp only [hl5_1] at HO_308005)
      cases gk with
      | zero => exact absurd HA.out (by simp [undercroftlaw09_InodeDecodes.l0])
      | succ k1 =>
        have H := HA.out
        clear HA
        simp only [undercroftlaw09_InodeDecodes.l0] at H
        by_cases c22 : x10_1 < (x5_1.length : Int)
        rotate_left
        · rw [if_neg c22] at H
          have c22b0 : decide (x10_1 < (x5_1.length : Int)) = false := decide_eq_false c22
          clear c22
          by_cases c27 : t296 = t306
          rotate_left
          · rw [if_neg c27] at H
            have c27b0 : (t296 == t306) = false := beq_eq_false_iff_ne.mpr c27
            have c27b1 : (t296 != t306) = true := bne_iff_ne.mpr c27
            exact absurd (Option.some.inj H) (by rw [hT]; decide)
          rw [if_pos c27] at H
          have c27b0 : (t296 == t306) = true := beq_iff_eq.mpr c27
          have c27b1 : (t296 != t306) = false := bne_eq_false_iff_eq.mpr c27
          clear c27
          replace H := Option.bind_eq_some_iff.mp H
          obtain ⟨t310, A280, H⟩ := H
          replace H : (some t310) = some r := H
          have A28 := Aside0.mk A280
          clear A280
          obtain rfl := Option.some.inj H
          have hnb29 := NB297_307.out
          have hnc29 := NB307_297.out
          have hcz30_0 : wr.cell? ⟨gb297, 0, none⟩ = some (.int .i64 t288) := (blk_cell BK297.out 0).trans rfl
          have hcz30_1 : wr.cell? ⟨gb297, 1, none⟩ = some (.int .i64 t289) := (blk_cell BK297.out 1).trans rfl
          have hcz30_2 : wr.cell? ⟨gb297, 2, none⟩ = some (.int .i64 t290) := (blk_cell BK297.out 2).trans rfl
          have hcz30_3 : wr.cell? ⟨gb297, 3, none⟩ = some (.bool t291) := (blk_cell BK297.out 3).trans rfl
          have hcz30_4 : wr.cell? ⟨gb297, 4, none⟩ = some (.int .i64 t292) := (blk_cell BK297.out 4).trans rfl
          have hcz30_5 : wr.cell? ⟨gb297, 5, none⟩ = some (.slice Ao16 t293.length co16) := (blk_cell BK297.out 5).trans rfl
          have hfz30_0 := blk_frozen BK297.out 0
          have hfz30_1 := blk_frozen BK297.out 1
          have hfz30_2 := blk_frozen BK297.out 2
          have hfz30_3 := blk_frozen BK297.out 3
          have hfz30_4 := blk_frozen BK297.out 4
          have hfz30_5 := blk_frozen BK297.out 5
          have hcz31_0 : wr.cell? ⟨gb307, 0, none⟩ = some (.int .i64 t298) := (blk_cell BK307.out 0).trans rfl
          have hcz31_1 : wr.cell? ⟨gb307, 1, none⟩ = some (.int .i64 t299) := (blk_cell BK307.out 1).trans rfl
          have hcz31_2 : wr.cell? ⟨gb307, 2, none⟩ = some (.int .i64 t300) := (blk_cell BK307.out 2).trans rfl
          have hcz31_3 : wr.cell? ⟨gb307, 3, none⟩ = some (.bool t301) := (blk_cell BK307.out 3).trans rfl
          have hcz31_4 : wr.cell? ⟨gb307, 4, none⟩ = some (.int .i64 t302) := (blk_cell BK307.out 4).trans rfl
          have hcz31_5 : wr.cell? ⟨gb307, 5, none⟩ = some (.slice Ao21 t303.length co21) := (blk_cell BK307.out 5).trans rfl
          have hfz31_0 := blk_frozen BK307.out 0
          have hfz31_1 := blk_frozen BK307.out 1
          have hfz31_2 := blk_frozen BK307.out 2
          have hfz31_3 := blk_frozen BK307.out 3
          have hfz31_4 := blk_frozen BK307.out 4
          have hfz31_5 := blk_frozen BK307.out 5
          go_wp2_with (first | (go_at_call 14; (with_reducible refine (undercroftref09_Same.calls t288 t289 t290 t291 t292 _ _ t293 t298 t299 t300 t301 t302 _ _ t303 t310 _ ?side1 ?side2 ?side3 ?side4 A28.out).mono ?_); (case side1 => repeat (first | exact (Kd.R_reads' HO_298005.out).2.2 | (with_reducible refine Kd.C_alloc ?_ _) | (with_reducible refine Kd.C_drewN ?_ _) | (with_reducible refine Kd.C_drew ?_))); (case side2 => exact (Kd.R_reads' HO_298005.out).2.1); (case side3 => repeat (first | exact (Kd.R_reads' HO_308005.out).2.2 | (with_reducible refine Kd.C_alloc ?_ _) | (with_reducible refine Kd.C_drewN ?_ _) | (with_reducible refine Kd.C_drew ?_))); (case side4 => exact (Kd.R_reads' HO_308005.out).2.1); rintro e w32 ⟨rfl, hb⟩; have n0_ := Aside0.mk (Kd.R_below (by (with_reducible repeat (first | apply Kd.R_alloc | apply Kd.R_drewN | apply Kd.R_drew)); exact HO_5.out) hb); have n1_ := Aside0.mk (Kd.R_below (by (with_reducible repeat (first | apply Kd.R_alloc | apply Kd.R_drewN | apply Kd.R_drew)); exact HO_298005.out) hb); have n2_ := Aside0.mk (Kd.R_below (by (with_reducible repeat (first | apply Kd.R_alloc | apply Kd.R_drewN | apply Kd.R_drew)); exact HO_308005.out) hb); have n3_ := Aside0.mk (blk_below (g := gb297) (o := .cells #[.int .i64 t288, .int .i64 t289, .int .i64 t290, .bool t291, .int .i64 t292, .slice Ao16 t293.length co16] 24 (0, 0)) (by (with_reducible repeat (first | refine blk_drewN ?_ _ | refine blk_drew ?_ | refine blk_alloc ?_ _)); exact BK297.out) hb); have n4_ := Aside0.mk (blk_below (g := gb307) (o := .cells #[.int .i64 t298, .int .i64 t299, .int .i64 t300, .bool t301, .int .i64 t302, .slice Ao21 t303.length co21] 24 (0, 0)) (by (with_reducible repeat (first | refine blk_drewN ?_ _ | refine blk_drew ?_ | refine blk_alloc ?_ _)); exact BK307.out) hb); have n5_ := Aside0.mk (below_step (by repeat (first | (with_reducible first | exact HB.out | apply below_alloc | apply pw_below_drewN | apply below_drew1 | refine below_set ?_ GE297.out | refine below_set ?_ GE307.out) | exact HB.out)) hb); clear HO_5; clear HO_298005; clear HO_308005; clear BK297; clear BK307; clear HB; have HO_5 := n0_; have HO_298005 := n1_; have HO_308005 := n2_; have BK297 := n3_; have BK307 := n4_; have HB := n5_; clear n0_ n1_ n2_ n3_ n4_ n5_; (try clear hb); (try clear hb2); (try clear hk); (try clear hi)))
          go_ret
          exact ⟨by first | rfl | (simp [errW_none, errW_some] <;> rfl) | (simp [*, errW_none, errW_some] <;> rfl), by repeat (first | (with_reducible first | exact HB.out | apply below_alloc | apply pw_below_drewN | apply below_drew1 | refine below_set ?_ GE297.out | refine below_set ?_ GE307.out) | exact HB.out)⟩
        rw [if_pos c22] at H
        have c22b0 : decide (x10_1 < (x5_1.length : Int)) = true := decide_eq_true c22
        clear c22
        by_cases c23 : 0 ≤ x10_1
        rotate_left
        · rw [if_neg c23] at H
          exact absurd H (by simp)
        rw [if_pos c23] at H
        have c23b0 : decide (0 ≤ x10_1) = true := decide_eq_true c23
        clear c23
        obtain ⟨y309, hy309⟩ : ∃ y_ : List Int, y_ = (x5_1.set (x10_1 : Int).toNat (Go.bits .xor .u8 (rd x5_1 x10_1) 255)) := ⟨_, rfl⟩
        replace H : (undercroftlaw09_InodeDecodes.l0 k1 y309 t296 t306 (wrap64 (x10_1 + 1)) t288 t289 t290 t291 t292 t293 t298 t299 t300 t301 t302 t303) = some r := by first | (rw [hy309]; with_reducible exact H) | (have H2_ := (Option.bind_some _ _).symm.trans H; rw [hy309]; with_reducible exact H2_) | (have H2_ := (Option.bind_some _ _).symm.trans H; with_reducible exact H2_) | with_reducible exact H | (rw [hy309]; exact H) | exact H
        have Ny309 := Aside0.mk hy309
        clear hy309
        have H' := Aside0.mk H
        clear H
        have p308 : 0 ≤ (x10_1 : Int) := of_decide_eq_true (by first | (with_reducible assumption) | assumption)
        have q308 : x10_1 < (x5_1.length : Int) := of_decide_eq_true (by first | (with_reducible assumption) | assumption)
        obtain ⟨ad308, e308, hx308_0⟩ := Kd.at_int (Kd.R_reads' HO_5.out).2.2 x10_1 p308 q308
        cases e308
        replace p308 := eq_true p308
        replace q308 := eq_true q308
        have p24 : 0 ≤ (x10_1 : Int) := of_decide_eq_true (by first | (with_reducible assumption) | assumption)
        have q24 : (x10_1 : Int) < ((x5_1.length : Int) : Int) := of_decide_eq_true (by first | (with_reducible assumption) | assumption)
        obtain ⟨go24, co24, eo24, gb24, gl24, cl24, HG24⟩ := Kd.R_form HO_5.out (by omega)
        (first | cases eo24 | (injection eo24 with ea_ en_ ec_; (first | subst ea_ | (injection ea_ with ea_; subst ea_)); subst ec_; clear en_))
        have GB24 := Aside0.mk gb24
        have GG24 := Aside0.mk HG24
        clear gb24 gl24 HG24
        (first | simp only [add_plain] at hx308_0 | skip)
        obtain ⟨hx24_0, hf24_0⟩ := Kd.R_celln 0 HO_5.out (x10_1 : Int) p24 q24
        replace p24 := eq_true p24
        replace q24 := eq_true q24
        have HP25 := Kd.R_putg HO_5.out (x10_1 : Int) (Go.bits .xor .u8 (rd x5_1 x10_1) 255)
        go_wp2_with (first | ((with_reducible refine gate_store (t := 5) (p := 39) rfl ?_); refine store_event (t := 5) (p := 39) (v := ?vo_w26) (w1 := (wr.setCell ⟨go24, (x10_1 : Int).toNat, none⟩ (.int .u8 (Go.bits .xor .u8 (rd x5_1 x10_1) 255)))) ?hg ?ho ?hn ?hr ?_; (case ho => rfl); (case hg => rfl); (case hn => rfl); (case hr => go_simp; first | done | rfl); intro w26 hw; have hg : wr.grownBy w26 (some go24) := (by rw [hw]; exact HP25.2); have hp_ : Kd.R (Kd.int .u8) 5 w26 w.heap.size (fun k_ => some k_ ≠ (.slice Ao16 t293.length co16 : Value).ownBlock ∧ some k_ ≠ (.slice Ao21 t303.length co21 : Value).ownBlock) (.slice (some ⟨go24, 0, none⟩) x5_1.length co12) y309 := (by rw [hw, Ny309.out]; exact HP25.1); clear HP25; have n0_ := Aside0.mk (hp_); have n1_ := Aside0.mk (Kd.R_after (v := (.slice (some ⟨go24, 0, none⟩) x5_1.length co12)) (v1 := (.slice (some ⟨go24, 0, none⟩) x5_1.length co12)) (ok := (fun k_ => some k_ ≠ (.slice Ao21 t303.length co21 : Value).ownBlock)) (by (with_reducible repeat (first | apply Kd.R_alloc | apply Kd.R_drewN | apply Kd.R_drew)); exact Kd.R_mono HO_298005.out (fun _ hk => ⟨hk.2, hk.1⟩)) hg (.inl rfl)); have n2_ := Aside0.mk (Kd.R_after (v := (.slice (some ⟨go24, 0, none⟩) x5_1.length co12)) (v1 := (.slice (some ⟨go24, 0, none⟩) x5_1.length co12)) (ok := (fun k_ => some k_ ≠ (.slice Ao16 t293.length co16 : Value).ownBlock)) (by (with_reducible repeat (first | apply Kd.R_alloc | apply Kd.R_drewN | apply Kd.R_drew)); exact Kd.R_mono HO_308005.out (fun _ hk => ⟨hk.2, hk.1⟩)) hg (.inl rfl)); have n3_ := Aside0.mk (blk_grown (g := gb297) (o := .cells #[.int .i64 t288, .int .i64 t289, .int .i64 t290, .bool t291, .int .i64 t292, .slice Ao16 t293.length co16] 24 (0, 0)) (by (with_reducible repeat (first | refine blk_drewN ?_ _ | refine blk_drew ?_ | refine blk_alloc ?_ _)); exact BK297.out) hg (Kd.R_ne HO_5.out BK297.out (by decide))); have n4_ := Aside0.mk (blk_grown (g := gb307) (o := .cells #[.int .i64 t298, .int .i64 t299, .int .i64 t300, .bool t301, .int .i64 t302, .slice Ao21 t303.length co21] 24 (0, 0)) (by (with_reducible repeat (first | refine blk_drewN ?_ _ | refine blk_drew ?_ | refine blk_alloc ?_ _)); exact BK307.out) hg (Kd.R_ne HO_5.out BK307.out (by decide))); have n5_ := Aside0.mk ((by rw [hw]; exact below_set (HB.out) GB24.out : Below w.heap.size w w26)); clear HO_5; clear HO_298005; clear HO_308005; clear BK297; clear BK307; clear HB; have HO_5 := n0_; have HO_298005 := n1_; have HO_308005 := n2_; have BK297 := n3_; have BK307 := n4_; have HB := n5_; clear n0_ n1_ n2_ n3_ n4_ n5_; clear hg hw hp_))
        (try simp only [← hl5_1])
        go_roundg k1
        case measure => have := HK1.out; omega
        case rel => exact ⟨(y309), (wrap64 (x10_1 + 1)), (by first | rfl | (simp; done) | (simp [*]; done)), H', ⟨by have := HK1.out; omega⟩, ⟨by (try simp only [hl5_1]); (with_reducible repeat (first | apply Kd.R_alloc | apply Kd.R_drewN | apply Kd.R_drew)); exact HO_5.out⟩, ⟨by (try simp only [hl5_1]); (with_reducible repeat (first | apply Kd.R_alloc | apply Kd.R_drewN | apply Kd.R_drew)); exact Kd.R_mono HO_298005.out (fun _ hk => ⟨hk.2, hk.1⟩)⟩, ⟨by (try simp only [hl5_1]); (with_reducible repeat (first | apply Kd.R_alloc | apply Kd.R_drewN | apply Kd.R_drew)); exact Kd.R_mono HO_308005.out (fun _ hk => ⟨hk.2, hk.1⟩)⟩, ⟨by (try simp only [hl5_1]); (with_reducible repeat (first | refine blk_drewN ?_ _ | refine blk_drew ?_ | refine blk_alloc ?_ _)); exact BK297.out⟩, ⟨by (try simp only [hl5_1]); (with_reducible repeat (first | refine blk_drewN ?_ _ | refine blk_drew ?_ | refine blk_alloc ?_ _)); exact BK307.out⟩, ⟨by repeat (first | (with_reducible first | exact HB.out | apply below_alloc | apply pw_below_drewN | apply below_drew1 | refine below_set ?_ GE297.out | refine below_set ?_ GE307.out) | exact HB.out)⟩⟩
  · replace c4 := Bool.eq_false_iff.mpr c4
    subst c4
    have H1 : (some false) = some r := by rw [if_neg (show ¬ (false = true) by decide)] at H; exact H
    clear H
    have H := H1
    clear H1
    exact absurd (Option.some.inj H) (by rw [hT]; decide)

/-- THE ONE PURE STATEMENT of undercroftlaw09_InodeDecodes: yours. -/
def undercroftlaw09_InodeDecodes.Pure : Prop := ∀ (l0 : List Int) (a1 : Int), l0.length ≤ maxLen → l0.length * 1 ≤ 140737488351232 → (∀ x ∈ l0, (Lit.int .u8 x).wf = true) → (Lit.int .i64 a1).wf = true → ∃ k, undercroftlaw09_InodeDecodes.f k l0 a1 = some true
theorem undercroftlaw09_InodeDecodes.walk (P : undercroftlaw09_InodeDecodes.Pure) (a0 : Option Addr) (len0 cap0 : Nat) (z0 : List Int) (a1 : Int) (w : World) (w0 : (a0 = none ∧ len0 = 0 ∧ cap0 = 0 ∧ z0 = []) ∨ ∃ x, a0 = some x ∧ len0 ≤ cap0 ∧ cap0 ≤ maxLen ∧ z0.length = cap0 ∧ (∀ i, i < z0.length → w.cell? (x.add i) = some (.int .u8 (z0.getD i 0))) ∧ ∀ n ∈ z0, (Lit.int .u8 n).wf = true) (y0 : len0 * 1 ≤ 140737488351232) (w1 : (Lit.int .i64 a1).wf = true) :
    Calls Try.prog 4 #[.slice a0 len0 cap0, .int .i64 a1] w fun e w' => e = .returned (.bool true) ∧ Below w.heap.size w w' := by
  obtain ⟨l0, rfl, hr0, hm0, hw0, hc0⟩ := ReadsInt.ofRowC w0
  obtain ⟨k, h⟩ := P l0 a1 hm0 y0 hw0 w1
  refine (undercroftlaw09_InodeDecodes.calls k _ _ l0 a1 true w (Kd.C_of_reads (d := (0 : Int)) (h1 := fun _ => rfl) hr0) hc0 h rfl).mono ?_
  rintro e w' ⟨rfl, hd⟩
  exact ⟨rfl, hd⟩

end Go.Proofs.Ytkpkmkgmpggjaaa.U
