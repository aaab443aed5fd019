/- Written by uprint.py (ours) for this seat: functions of the translation as Lean functions, and what their calls do. Not trusted: Lean checks it. -/
import Derived.Test.YtpihpabofgmahaaUx0
import Derived.Test.YtpihpabofgmahaaUx7
import Derived.Test.YtpihpabofgmahaaUx11
import Derived.Test.YtpihpabofgmahaaUx12
import Derived.Test.YtpihpabofgmahaaUx20
namespace Go.Proofs.Ytpihpabofgmahaa.U
open Go.RowKit Go.Proofs.YtpihpabofgmahaaW.PrintWords Go.Proofs.YtpihpabofgmahaaW.PrintLast Go.Proofs.YtpihpabofgmahaaW.PrintMore
attribute [local go_sem] max2_int min2_int max_two min_two max_three min_three max_four min_four   -- for this text's walks alone
set_option linter.unusedVariables false
set_option linter.unusedSimpArgs false

/-! ### undercroftlaw03_RecordTwo: function 9 -/
def undercroftlaw03_RecordTwo.j1 : Nat → List Int → List Int → List Int → Int → Bool → Int → List (S43) → List Int → Int → List (S43) → List Int → Int → List (S43) → List Int → Option (Bool)
  | 0, _, _, _, _, _, _, _, _, _, _, _, _, _, _ => none
  | k + 1, x5, x7, x9, x11, x55, x422000, x422001, x422002, x423000, x423001, x423002, x451000, x451001, x451002 => if x55 = true then (some false) else (if 0 ≤ (wrap64 (256 * x11)) then (if (wrap64 (256 * x11)) ≤ (x9.length : Int) then ((record_Decode.f (x9.drop ((wrap64 (256 * x11)) : Int).toNat) x423000).bind fun bt455 => ((undercroftref03_Same.f k x451000 x451001 x451002 x422000 x422001 x422002).bind fun t465 => (if t465 = true then (if bt455.2.2.2.2 = true then (if (wrap64 (256 * bt455.2.2.2.1)) = (x7.length : Int) then ((undercroftref03_Same.f k bt455.1 bt455.2.1 bt455.2.2.1 x423000 x423001 x423002).bind fun t466 => (if t466 = true then ((undercroftref03_Same.f k x422000 x422001 x422002 x423000 x423001 x423002).bind fun t467 => (some (((strOfNums x5).toList == (strOfNums x7).toList) == t467))) else (some false))) else (some false)) else (some false)) else (some false)))) else (none)) else (none))
def undercroftlaw03_RecordTwo.j0 : Nat → List Int → List Int → Bool → Int → List (S43) → List Int → Int → List (S43) → List Int → Option (Bool)
  | 0, _, _, _, _, _, _, _, _, _ => none
  | k + 1, x5, x7, x33, x422000, x422001, x422002, x423000, x423001, x423002 => if x33 = true then (some true) else ((some (([] : List Int) : List Int)).bind fun y432 => (if y432.length + x5.length < 140737488355328 then ((some (y432 ++ x5 : List Int)).bind fun y435 => (if y435.length + x7.length < 140737488355328 then ((some (y435 ++ x7 : List Int)).bind fun y438 => ((record_Decode.f y438 x422000).bind fun bt441 => (if bt441.2.2.2.2 = true then (undercroftlaw03_RecordTwo.j1 k x5 x7 y438 bt441.2.2.2.1 ((wrap64 (256 * bt441.2.2.2.1)) != (x5.length : Int)) x422000 x422001 x422002 x423000 x423001 x423002 bt441.1 bt441.2.1 bt441.2.2.1) else (undercroftlaw03_RecordTwo.j1 k x5 x7 y438 bt441.2.2.2.1 true x422000 x422001 x422002 x423000 x423001 x423002 bt441.1 bt441.2.1 bt441.2.2.1)))) else (none))) else (none)))
def undercroftlaw03_RecordTwo.f (k : Nat) (a0_0 : Int) (l0_1 : List (S43)) (l0_2 : List Int) (a1_0 : Int) (l1_1 : List (S43)) (l1_2 : List Int) : Option (Bool) := (undercroftlaw03_alive.f).bind fun t423 => (if t423 = true then ((record_Encode.f a0_0 l0_1 l0_2).bind fun bt424 => ((record_Encode.f a1_0 l1_1 l1_2).bind fun bt428 => (if bt424.2 = 0 then (undercroftlaw03_RecordTwo.j0 k bt424.1 bt428.1 (bt428.2 != 0) a0_0 l0_1 l0_2 a1_0 l1_1 l1_2) else (undercroftlaw03_RecordTwo.j0 k bt424.1 bt428.1 true a0_0 l0_1 l0_2 a1_0 l1_1 l1_2)))) else (some false))
theorem undercroftlaw03_RecordTwo.mono_l : ∀ k, (∀ y0 y1 y2 y3 y4 y5 y6 y7 y8, LeO (undercroftlaw03_RecordTwo.j0 k y0 y1 y2 y3 y4 y5 y6 y7 y8) (undercroftlaw03_RecordTwo.j0 (k + 1) y0 y1 y2 y3 y4 y5 y6 y7 y8)) ∧ (∀ y0 y1 y2 y3 y4 y5 y6 y7 y8 y9 y10 y11 y12 y13, LeO (undercroftlaw03_RecordTwo.j1 k y0 y1 y2 y3 y4 y5 y6 y7 y8 y9 y10 y11 y12 y13) (undercroftlaw03_RecordTwo.j1 (k + 1) y0 y1 y2 y3 y4 y5 y6 y7 y8 y9 y10 y11 y12 y13))
  | 0 => ⟨fun _ _ _ _ _ _ _ _ _ r h => by simp [undercroftlaw03_RecordTwo.j0] at h, fun _ _ _ _ _ _ _ _ _ _ _ _ _ _ r h => by simp [undercroftlaw03_RecordTwo.j1] at h⟩
  | k + 1 => by
    obtain ⟨ih0, ih1⟩ := undercroftlaw03_RecordTwo.mono_l k
    refine ⟨?_, ?_⟩
    · intro y0 y1 y2 y3 y4 y5 y6 y7 y8
      unfold undercroftlaw03_RecordTwo.j0
      repeat' first
      | (with_reducible exact ih0 _ _ _ _ _ _ _ _ _)
      | (with_reducible exact ih1 _ _ _ _ _ _ _ _ _ _ _ _ _ _)
      | (with_reducible exact undercroftref03_Same.mono _ _ _ _ _ _ _)
      | (with_reducible exact LeO.refl _)
      | (with_reducible exact LeO.none _)
      | (with_reducible refine LeO.ite ?_ ?_)
      | (with_reducible refine LeO.bind ?_ (fun _ => ?_))
      | exact ih0 _ _ _ _ _ _ _ _ _
      | exact ih1 _ _ _ _ _ _ _ _ _ _ _ _ _ _
      | exact undercroftref03_Same.mono _ _ _ _ _ _ _
      | exact LeO.none _
      | refine LeO.ite ?_ ?_
      | refine LeO.bind ?_ (fun _ => ?_)
    · intro y0 y1 y2 y3 y4 y5 y6 y7 y8 y9 y10 y11 y12 y13
      unfold undercroftlaw03_RecordTwo.j1
      repeat' first
      | (with_reducible exact ih0 _ _ _ _ _ _ _ _ _)
      | (with_reducible exact ih1 _ _ _ _ _ _ _ _ _ _ _ _ _ _)
      | (with_reducible exact undercroftref03_Same.mono _ _ _ _ _ _ _)
      | (with_reducible exact LeO.refl _)
      | (with_reducible exact LeO.none _)
      | (with_reducible refine LeO.ite ?_ ?_)
      | (with_reducible refine LeO.bind ?_ (fun _ => ?_))
      | exact ih0 _ _ _ _ _ _ _ _ _
      | exact ih1 _ _ _ _ _ _ _ _ _ _ _ _ _ _
      | exact undercroftref03_Same.mono _ _ _ _ _ _ _
      | exact LeO.none _
      | refine LeO.ite ?_ ?_
      | refine LeO.bind ?_ (fun _ => ?_)
theorem undercroftlaw03_RecordTwo.mono : ∀ a0 a1 a2 a3 a4 a5 k, LeO (undercroftlaw03_RecordTwo.f k a0 a1 a2 a3 a4 a5) (undercroftlaw03_RecordTwo.f (k + 1) a0 a1 a2 a3 a4 a5) := by
  intro a0 a1 a2 a3 a4 a5 k
  obtain ⟨ih0, ih1⟩ := undercroftlaw03_RecordTwo.mono_l k
  unfold undercroftlaw03_RecordTwo.f
  repeat' first
      | (with_reducible exact ih0 _ _ _ _ _ _ _ _ _)
      | (with_reducible exact ih1 _ _ _ _ _ _ _ _ _ _ _ _ _ _)
      | (with_reducible exact undercroftref03_Same.mono _ _ _ _ _ _ _)
      | (with_reducible exact LeO.refl _)
      | (with_reducible exact LeO.none _)
      | (with_reducible refine LeO.ite ?_ ?_)
      | (with_reducible refine LeO.bind ?_ (fun _ => ?_))
      | exact ih0 _ _ _ _ _ _ _ _ _
      | exact ih1 _ _ _ _ _ _ _ _ _ _ _ _ _ _
      | exact undercroftref03_Same.mono _ _ _ _ _ _ _
      | exact LeO.none _
      | refine LeO.ite ?_ ?_
      | refine LeO.bind ?_ (fun _ => ?_)
def undercroftlaw03_RecordTwo.T11 : Bool × List (List Nat × List Nat) := (true, [([], []), ([], []), ([1], [1]), ([0, 2], [0, 2]), ([], []), ([4], [4]), ([3, 5], [3, 5]), ([6], [6]), ([7], [7]), ([7], [7]), ([7], [7]), ([], []), ([11, 8, 6, 0, 1, 2, 3, 4, 5, 6, 7, 8, 11], [8, 11]), ([9, 12, 0, 1, 2, 3, 4, 5, 6, 7, 8, 9, 11, 12], [9]), ([10, 13, 0, 1, 2, 3, 4, 5, 6, 7, 8, 9, 10, 11, 12, 13], [10])])
def undercroftlaw03_RecordTwo.B11 : List Nat := [0, 0, 2, 7, 0, 16, 63, 127, 255, 255, 255, 0, 2559, 7167, 16383]
theorem undercroftlaw03_RecordTwo.tab11 : rtab .any (opsOf Try.f9 11) = undercroftlaw03_RecordTwo.T11 := by kernel_rfl
theorem undercroftlaw03_RecordTwo.bits11 : waitsOk undercroftlaw03_RecordTwo.T11.2 undercroftlaw03_RecordTwo.B11 = true := by kernel_rfl
def undercroftlaw03_RecordTwo.T12 : Bool × List (List Nat × List Nat) := (true, [([], []), ([], []), ([0, 1], [0, 1]), ([2, 2], [2]), ([3], [3]), ([3, 4], [3, 4]), ([5, 3], [5]), ([6], [6]), ([7, 6], [6, 7]), ([6], [6]), ([9, 6], [6, 9]), ([8, 10, 6], [6, 8, 10]), ([6, 11], [6, 11]), ([12, 6], [12]), ([13], [13]), ([13], [13]), ([14, 15, 13, 13], [13, 14, 15]), ([13, 16], [13, 16]), ([17, 16], [17]), ([18], [18]), ([19, 18], [18, 19]), ([18], [18]), ([21, 18], [18, 21]), ([20, 22, 18], [18, 20, 22]), ([18], [18]), ([18], [18]), ([24, 25, 18, 18], [18, 24, 25]), ([23, 26, 18], [18, 23, 26]), ([18, 27], [18, 27]), ([28, 26, 0, 1, 2, 3, 4, 5, 6, 7, 8, 9, 10, 11, 12, 13, 14, 15, 16, 17, 18, 19, 20, 21, 22, 23, 24, 25, 26, 27, 28], [28])])
def undercroftlaw03_RecordTwo.B12 : List Nat := [0, 0, 3, 7, 15, 31, 63, 127, 255, 127, 639, 2047, 4095, 8191, 16383, 16383, 65535, 131071, 262143, 524287, 1048575, 524287, 2621439, 8388607, 524287, 524287, 50855935, 134217727, 268435455, 536870911]
theorem undercroftlaw03_RecordTwo.tab12 : rtab .any (opsOf Try.f9 12) = undercroftlaw03_RecordTwo.T12 := by kernel_rfl
theorem undercroftlaw03_RecordTwo.bits12 : waitsOk undercroftlaw03_RecordTwo.T12.2 undercroftlaw03_RecordTwo.B12 = true := by kernel_rfl
set_option maxHeartbeats 8000000 in
set_option maxRecDepth 100000 in
theorem undercroftlaw03_RecordTwo.calls (k : Nat) (a0_0 : Int) (A0_1 : Option Addr) (c0_1 : Nat) (l0_1 : List (S43)) (A0_2 : Option Addr) (c0_2 : Nat) (l0_2 : List Int) (a1_0 : Int) (A1_1 : Option Addr) (c1_1 : Nat) (l1_1 : List (S43)) (A1_2 : Option Addr) (c1_2 : Nat) (l1_2 : List Int) (r : Bool) (w : World) (hr0_1 : Kd.C k43 w A0_1 l0_1.length l0_1) (hc0_1 : l0_1.length ≤ c0_1) (hr0_2 : Kd.C (Kd.int .i64) w A0_2 l0_2.length l0_2) (hc0_2 : l0_2.length ≤ c0_2) (hr1_1 : Kd.C k43 w A1_1 l1_1.length l1_1) (hc1_1 : l1_1.length ≤ c1_1) (hr1_2 : Kd.C (Kd.int .i64) w A1_2 l1_2.length l1_2) (hc1_2 : l1_2.length ≤ c1_2) (h : undercroftlaw03_RecordTwo.f k a0_0 l0_1 l0_2 a1_0 l1_1 l1_2 = some r) (hT : r = true) :
    Calls Try.prog 9 #[.agg #[.int .u64 a0_0, .slice A0_1 l0_1.length c0_1, .slice A0_2 l0_2.length c0_2], .agg #[.int .u64 a1_0, .slice A1_1 l1_1.length c1_1, .slice A1_2 l1_2.length c1_2]] w fun e w' => e = .returned (.bool r) ∧ Below w.heap.size w w' := by
  have hu26 := Try.underlying26
  have HR0_1 := Aside0.mk hr0_1
  have HC0_1 := Aside0.mk hc0_1
  clear hr0_1 hc0_1
  have HR0_2 := Aside0.mk hr0_2
  have HC0_2 := Aside0.mk hc0_2
  clear hr0_2 hc0_2
  have HR1_1 := Aside0.mk hr1_1
  have HC1_1 := Aside0.mk hc1_1
  clear hr1_1 hc1_1
  have HR1_2 := Aside0.mk hr1_2
  have HC1_2 := Aside0.mk hc1_2
  clear hr1_2 hc1_2
  have HB := Aside0.mk (Below.refl w.heap.size w)
  have H : ((undercroftlaw03_alive.f).bind fun t423 => (if t423 = true then ((record_Encode.f a0_0 l0_1 l0_2).bind fun bt424 => ((record_Encode.f a1_0 l1_1 l1_2).bind fun bt428 => (if bt424.2 = 0 then (undercroftlaw03_RecordTwo.j0 k bt424.1 bt428.1 (bt428.2 != 0) a0_0 l0_1 l0_2 a1_0 l1_1 l1_2) else (undercroftlaw03_RecordTwo.j0 k bt424.1 bt428.1 true a0_0 l0_1 l0_2 a1_0 l1_1 l1_2)))) else (some false))) = some r := h
  clear h
  replace H := Option.bind_eq_some_iff.mp H
  obtain ⟨t423, A30, H⟩ := H
  replace H : (if t423 = true then ((record_Encode.f a0_0 l0_1 l0_2).bind fun bt424 => ((record_Encode.f a1_0 l1_1 l1_2).bind fun bt428 => (if bt424.2 = 0 then (undercroftlaw03_RecordTwo.j0 k bt424.1 bt428.1 (bt428.2 != 0) a0_0 l0_1 l0_2 a1_0 l1_1 l1_2) else (undercroftlaw03_RecordTwo.j0 k bt424.1 bt428.1 true a0_0 l0_1 l0_2 a1_0 l1_1 l1_2)))) else (some false)) = some r := H
  have A3 := Aside0.mk A30
  clear A30
  by_cases c4 : t423 = true
  · subst c4
    have H1 : ((record_Encode.f a0_0 l0_1 l0_2).bind fun bt424 => ((record_Encode.f a1_0 l1_1 l1_2).bind fun bt428 => (if bt424.2 = 0 then (undercroftlaw03_RecordTwo.j0 k bt424.1 bt428.1 (bt428.2 != 0) a0_0 l0_1 l0_2 a1_0 l1_1 l1_2) else (undercroftlaw03_RecordTwo.j0 k bt424.1 bt428.1 true a0_0 l0_1 l0_2 a1_0 l1_1 l1_2)))) = some r := by rw [if_pos rfl] at H; exact H
    clear H
    have H := H1
    clear H1
    replace H := Option.bind_eq_some_iff.mp H
    obtain ⟨⟨t424, t427⟩, A50, H⟩ := H
    replace H : ((record_Encode.f a1_0 l1_1 l1_2).bind fun bt428 => (if t427 = 0 then (undercroftlaw03_RecordTwo.j0 k t424 bt428.1 (bt428.2 != 0) a0_0 l0_1 l0_2 a1_0 l1_1 l1_2) else (undercroftlaw03_RecordTwo.j0 k t424 bt428.1 true a0_0 l0_1 l0_2 a1_0 l1_1 l1_2))) = some r := H
    have A5 := Aside0.mk A50
    clear A50
    replace H := Option.bind_eq_some_iff.mp H
    obtain ⟨⟨t428, t431⟩, A60, H⟩ := H
    replace H : (if t427 = 0 then (undercroftlaw03_RecordTwo.j0 k t424 t428 (t431 != 0) a0_0 l0_1 l0_2 a1_0 l1_1 l1_2) else (undercroftlaw03_RecordTwo.j0 k t424 t428 true a0_0 l0_1 l0_2 a1_0 l1_1 l1_2)) = some r := H
    have A6 := Aside0.mk A60
    clear A60
    have HC7 := Aside0.mk H
    clear H
    go_enter Try.func9, Try.ntmps9
    go_upto_region 5 with (first | ((with_reducible refine gate_dst (N := 2) rfl ?_); (try (refine gate_guard (by rfl) ?_; dsimp only)); refine box_event ?hg (N := 2) ?hd (cs := #[.int .u64 a0_0, .slice A0_1 l0_1.length c0_1, .slice A0_2 l0_2.length c0_2]) (t := 26) ?hr ?_; (case hd => rfl); (case hg => rfl); (case hr => go_simp; first | done | rfl); intro gb421 hg w8 hbox hb; have n0_ := Aside0.mk (below_step (by repeat (first | (with_reducible first | exact HB.out | apply below_alloc | apply pw_below_drewN | apply below_drew1) | exact HB.out)) hb); have n1_ := Aside0.mk (hbox); have n2_ := Aside0.mk ((by rw [hg]; exact (below_size (by repeat (first | (with_reducible first | exact HB.out | apply below_alloc | apply pw_below_drewN | apply below_drew1) | exact HB.out))) : w.heap.size ≤ gb421)); have n3_ := Aside0.mk ((by rw [hg]; exact (below_size (by repeat (first | (with_reducible first | exact HB.out | apply below_alloc | apply pw_below_drewN | apply below_drew1) | exact HB.out))) : w.heap.size ≤ gb421)); clear HB; have HB := n0_; have BK421 := n1_; have GW421 := n2_; have GE421 := n3_; clear n0_ n1_ n2_ n3_; clear hb hbox hg) | ((with_reducible refine gate_dst (N := 3) rfl ?_); (try (refine gate_guard (by rfl) ?_; dsimp only)); refine box_event ?hg (N := 3) ?hd (cs := #[.int .u64 a1_0, .slice A1_1 l1_1.length c1_1, .slice A1_2 l1_2.length c1_2]) (t := 26) ?hr ?_; (case hd => rfl); (case hg => rfl); (case hr => go_simp; first | done | rfl); intro gb422 hg w9 hbox hb; have n0_ := Aside0.mk (blk_below (g := gb421) (o := .cells #[.int .u64 a0_0, .slice A0_1 l0_1.length c0_1, .slice A0_2 l0_2.length c0_2] 26 (0, 0)) (by (with_reducible repeat (first | refine blk_drewN ?_ _ | refine blk_drew ?_ | refine blk_alloc ?_ _)); exact BK421.out) hb); have n1_ := Aside0.mk (below_step (by repeat (first | (with_reducible first | exact HB.out | apply below_alloc | apply pw_below_drewN | apply below_drew1 | refine below_set ?_ GE421.out) | exact HB.out)) hb); have n2_ := Aside0.mk (hbox); have n3_ := Aside0.mk ((by rw [hg]; exact (below_size (by repeat (first | (with_reducible first | exact HB.out | apply below_alloc | apply pw_below_drewN | apply below_drew1 | refine below_set ?_ GE421.out) | exact HB.out))) : w.heap.size ≤ gb422)); have n4_ := Aside0.mk ((by rw [hg]; exact (below_size (by repeat (first | (with_reducible first | exact HB.out | apply below_alloc | apply pw_below_drewN | apply below_drew1 | refine below_set ?_ GE421.out) | exact HB.out))) : w.heap.size ≤ gb422)); have n5_ := Aside0.mk ((by rw [hg]; exact Nat.ne_of_lt (blk_lt (g := gb421) (o := .cells #[.int .u64 a0_0, .slice A0_1 l0_1.length c0_1, .slice A0_2 l0_2.length c0_2] 26 (0, 0)) (by (with_reducible repeat (first | refine blk_drewN ?_ _ | refine blk_drew ?_ | refine blk_alloc ?_ _)); exact BK421.out)) : gb421 ≠ gb422)); have n6_ := Aside0.mk ((by rw [hg]; exact Nat.ne_of_gt (blk_lt (g := gb421) (o := .cells #[.int .u64 a0_0, .slice A0_1 l0_1.length c0_1, .slice A0_2 l0_2.length c0_2] 26 (0, 0)) (by (with_reducible repeat (first | refine blk_drewN ?_ _ | refine blk_drew ?_ | refine blk_alloc ?_ _)); exact BK421.out)) : gb422 ≠ gb421)); clear BK421; clear HB; have BK421 := n0_; have HB := n1_; have BK422 := n2_; have GW422 := n3_; have GE422 := n4_; have NB421_422 := n5_; have NB422_421 := n6_; clear n0_ n1_ n2_ n3_ n4_ n5_ n6_; clear hb hbox hg) | ((with_reducible refine gate_callee (f := 11) rfl ?_); refine goesL_ (some 16) rfl rfl Try.func11 (by kernel_rfl) rfl #[] rfl (by (try simp only [List.map_toArray, List.map_cons, List.map_nil]); first | done | rfl | (simp only [List.length_drop, List.length_take]; rfl)) ?_; (with_reducible refine (undercroftlaw03_alive.calls  true _ A3.out rfl).mono ?_); rintro e w10 ⟨rfl, hb⟩; refine ⟨_, rfl, ?_⟩; have n0_ := Aside0.mk (blk_below (g := gb421) (o := .cells #[.int .u64 a0_0, .slice A0_1 l0_1.length c0_1, .slice A0_2 l0_2.length c0_2] 26 (0, 0)) (by (with_reducible repeat (first | refine blk_drewN ?_ _ | refine blk_drew ?_ | refine blk_alloc ?_ _)); exact BK421.out) hb); have n1_ := Aside0.mk (blk_below (g := gb422) (o := .cells #[.int .u64 a1_0, .slice A1_1 l1_1.length c1_1, .slice A1_2 l1_2.length c1_2] 26 (0, 0)) (by (with_reducible repeat (first | refine blk_drewN ?_ _ | refine blk_drew ?_ | refine blk_alloc ?_ _)); exact BK422.out) hb); have n2_ := Aside0.mk (below_step (by repeat (first | (with_reducible first | exact HB.out | apply below_alloc | apply pw_below_drewN | apply below_drew1 | refine below_set ?_ GE421.out | refine below_set ?_ GE422.out) | exact HB.out)) hb); clear BK421; clear BK422; clear HB; have BK421 := n0_; have BK422 := n1_; have HB := n2_; clear n0_ n1_ n2_; (try clear hb); (try clear hb2); (try clear hk); (try clear hi); have hnb11 := NB421_422.out; have hnc11 := NB422_421.out; have hcz12_0 : w10.cell? ⟨gb421, 0, none⟩ = some (.int .u64 a0_0) := (blk_cell BK421.out 0).trans rfl; have hcz12_1 : w10.cell? ⟨gb421, 1, none⟩ = some (.slice A0_1 l0_1.length c0_1) := (blk_cell BK421.out 1).trans rfl; have hcz12_2 : w10.cell? ⟨gb421, 2, none⟩ = some (.slice A0_2 l0_2.length c0_2) := (blk_cell BK421.out 2).trans rfl; have hfz12_0 := blk_frozen BK421.out 0; have hfz12_1 := blk_frozen BK421.out 1; have hfz12_2 := blk_frozen BK421.out 2) | ((with_reducible refine gate_callee (f := 13) rfl ?_); refine goesL_ (some 20) rfl rfl Try.func13 (by kernel_rfl) rfl #[.agg #[.int .u64 a0_0, .slice A0_1 l0_1.length c0_1, .slice A0_2 l0_2.length c0_2]] rfl (by (try simp only [List.map_toArray, List.map_cons, List.map_nil]); first | done | rfl | (simp only [List.length_drop, List.length_take]; rfl)) ?_; (with_reducible refine (record_Encode.calls a0_0 _ _ l0_1 _ _ l0_2 t424 t427 _ ?side1 ?side2 ?side3 ?side4 A5.out).mono ?_); (case side1 => repeat (first | exact (Kd.C_below HR0_1.out HB.out) | (with_reducible refine Kd.C_alloc ?_ _) | (with_reducible refine Kd.C_drewN ?_ _) | (with_reducible refine Kd.C_drew ?_))); (case side2 => exact HC0_1.out); (case side3 => repeat (first | exact (Kd.C_below HR0_2.out HB.out) | (with_reducible refine Kd.C_alloc ?_ _) | (with_reducible refine Kd.C_drewN ?_ _) | (with_reducible refine Kd.C_drew ?_))); (case side4 => exact HC0_2.out); rintro e w13 ⟨v425, rfl, ho0, hb⟩; refine ⟨_, rfl, ?_⟩; have n0_ := Aside0.mk (Kd.R_lower ho0 (below_size (by repeat (first | (with_reducible first | exact HB.out | apply below_alloc | apply pw_below_drewN | apply below_drew1 | refine below_set ?_ GE421.out | refine below_set ?_ GE422.out) | exact HB.out)))); have n1_ := Aside0.mk (blk_below (g := gb421) (o := .cells #[.int .u64 a0_0, .slice A0_1 l0_1.length c0_1, .slice A0_2 l0_2.length c0_2] 26 (0, 0)) (by (with_reducible repeat (first | refine blk_drewN ?_ _ | refine blk_drew ?_ | refine blk_alloc ?_ _)); exact BK421.out) hb); have n2_ := Aside0.mk (blk_below (g := gb422) (o := .cells #[.int .u64 a1_0, .slice A1_1 l1_1.length c1_1, .slice A1_2 l1_2.length c1_2] 26 (0, 0)) (by (with_reducible repeat (first | refine blk_drewN ?_ _ | refine blk_drew ?_ | refine blk_alloc ?_ _)); exact BK422.out) hb); have n3_ := Aside0.mk (below_step (by repeat (first | (with_reducible first | exact HB.out | apply below_alloc | apply pw_below_drewN | apply below_drew1 | refine below_set ?_ GE421.out | refine below_set ?_ GE422.out) | exact HB.out)) hb); clear BK421; clear BK422; clear HB; have HO426 := n0_; have BK421 := n1_; have BK422 := n2_; have HB := n3_; clear n0_ n1_ n2_ n3_; (try clear hb); (try clear hb2); (try clear hk); (try clear hi); (try clear ho0); have hcz14_0 : w13.cell? ⟨gb422, 0, none⟩ = some (.int .u64 a1_0) := (blk_cell BK422.out 0).trans rfl; have hcz14_1 : w13.cell? ⟨gb422, 1, none⟩ = some (.slice A1_1 l1_1.length c1_1) := (blk_cell BK422.out 1).trans rfl; have hcz14_2 : w13.cell? ⟨gb422, 2, none⟩ = some (.slice A1_2 l1_2.length c1_2) := (blk_cell BK422.out 2).trans rfl; have hfz14_0 := blk_frozen BK422.out 0; have hfz14_1 := blk_frozen BK422.out 1; have hfz14_2 := blk_frozen BK422.out 2) | ((with_reducible refine gate_callee (f := 13) rfl ?_); refine goesL_ (some 25) rfl rfl Try.func13 (by kernel_rfl) rfl #[.agg #[.int .u64 a1_0, .slice A1_1 l1_1.length c1_1, .slice A1_2 l1_2.length c1_2]] rfl (by (try simp only [List.map_toArray, List.map_cons, List.map_nil]); first | done | rfl | (simp only [List.length_drop, List.length_take]; rfl)) ?_; (with_reducible refine (record_Encode.calls a1_0 _ _ l1_1 _ _ l1_2 t428 t431 _ ?side1 ?side2 ?side3 ?side4 A6.out).mono ?_); (case side1 => repeat (first | exact (Kd.C_below HR1_1.out HB.out) | (with_reducible refine Kd.C_alloc ?_ _) | (with_reducible refine Kd.C_drewN ?_ _) | (with_reducible refine Kd.C_drew ?_))); (case side2 => exact HC1_1.out); (case side3 => repeat (first | exact (Kd.C_below HR1_2.out HB.out) | (with_reducible refine Kd.C_alloc ?_ _) | (with_reducible refine Kd.C_drewN ?_ _) | (with_reducible refine Kd.C_drew ?_))); (case side4 => exact HC1_2.out); rintro e w15 ⟨v429, rfl, ho0, hb⟩; refine ⟨_, rfl, ?_⟩; have n0_ := Aside0.mk (Kd.R_elder' (by (with_reducible repeat (first | apply Kd.R_alloc | apply Kd.R_drewN | apply Kd.R_drew)); exact HO426.out) (Kd.R_base ho0) hb); have n1_ := Aside0.mk (Kd.R_lower (Kd.R_new' ho0 (Kd.R_lt (by (with_reducible repeat (first | apply Kd.R_alloc | apply Kd.R_drewN | apply Kd.R_drew)); exact HO426.out))) (below_size (by repeat (first | (with_reducible first | exact HB.out | apply below_alloc | apply pw_below_drewN | apply below_drew1 | refine below_set ?_ GE421.out | refine below_set ?_ GE422.out) | exact HB.out)))); have n2_ := Aside0.mk (blk_below (g := gb421) (o := .cells #[.int .u64 a0_0, .slice A0_1 l0_1.length c0_1, .slice A0_2 l0_2.length c0_2] 26 (0, 0)) (by (with_reducible repeat (first | refine blk_drewN ?_ _ | refine blk_drew ?_ | refine blk_alloc ?_ _)); exact BK421.out) hb); have n3_ := Aside0.mk (blk_below (g := gb422) (o := .cells #[.int .u64 a1_0, .slice A1_1 l1_1.length c1_1, .slice A1_2 l1_2.length c1_2] 26 (0, 0)) (by (with_reducible repeat (first | refine blk_drewN ?_ _ | refine blk_drew ?_ | refine blk_alloc ?_ _)); exact BK422.out) hb); have n4_ := Aside0.mk (below_step (by repeat (first | (with_reducible first | exact HB.out | apply below_alloc | apply pw_below_drewN | apply below_drew1 | refine below_set ?_ GE421.out | refine below_set ?_ GE422.out) | exact HB.out)) hb); clear HO426; clear BK421; clear BK422; clear HB; have HO426 := n0_; have HO430 := n1_; have BK421 := n2_; have BK422 := n3_; have HB := n4_; clear n0_ n1_ n2_ n3_ n4_; (try clear hb); (try clear hb2); (try clear hk); (try clear hi); (try clear ho0)))
    (try simp only [Act.put, List.setIfInBounds_toArray, List.set_cons_zero, List.set_cons_succ])
    go_cut [33] (fun v33 wc => ∃ (kq : Nat) (x33_6 : Bool), v33 = .bool x33_6 ∧ Aside0 (undercroftlaw03_RecordTwo.j0 kq t424 t428 x33_6 a0_0 l0_1 l0_2 a1_0 l1_1 l1_2 = some r) ∧ Aside0 (kq ≤ k) ∧ Aside0 (Kd.R (Kd.int .u8) 5 wc w.heap.size (fun k_ => some k_ ≠ (v429 : Value).ownBlock) v425 t424) ∧ Aside0 (Kd.R (Kd.int .u8) 5 wc w.heap.size (fun k_ => some k_ ≠ (v425 : Value).ownBlock) v429 t428) ∧ Aside0 (wc.heap[gb421]? = some (.cells #[.int .u64 a0_0, (.slice A0_1 l0_1.length c0_1), (.slice A0_2 l0_2.length c0_2)] 26 (0, 0))) ∧ Aside0 (wc.heap[gb422]? = some (.cells #[.int .u64 a1_0, (.slice A1_1 l1_1.length c1_1), (.slice A1_2 l1_2.length c1_2)] 26 (0, 0))) ∧ Aside0 (Below w.heap.size w wc))
    case first =>
      have H := HC7.out
      clear HC7
      by_cases c16 : t427 = 0
      rotate_left
      · rw [if_neg c16] at H
        have c16b0 : (t427 == 0) = false := beq_eq_false_iff_ne.mpr c16
        have c16b1 : (t427 != 0) = true := bne_iff_ne.mpr c16
        (first | rw [c16b0] | (simp only [i64_w, i32_w]; rw [c16b0]) | skip)
        have H' := Aside0.mk H
        clear H
        go_wp2
        go_meet
        case rel => exact ⟨_, (true), (by first | rfl | (simp; done) | (simp [*]; done)), H', ⟨by first | omega | exact Nat.le_refl _⟩, ⟨by (with_reducible repeat (first | apply Kd.R_alloc | apply Kd.R_drewN | apply Kd.R_drew)); exact Kd.R_mono HO426.out (fun _ hk => hk.2)⟩, ⟨by (with_reducible repeat (first | apply Kd.R_alloc | apply Kd.R_drewN | apply Kd.R_drew)); exact Kd.R_mono HO430.out (fun _ hk => hk.2)⟩, ⟨by (with_reducible repeat (first | refine blk_drewN ?_ _ | refine blk_drew ?_ | refine blk_alloc ?_ _)); exact BK421.out⟩, ⟨by (with_reducible repeat (first | refine blk_drewN ?_ _ | refine blk_drew ?_ | refine blk_alloc ?_ _)); exact BK422.out⟩, ⟨by repeat (first | (with_reducible first | exact HB.out | apply below_alloc | apply pw_below_drewN | apply below_drew1 | refine below_set ?_ GE421.out | refine below_set ?_ GE422.out) | exact HB.out)⟩⟩
      rw [if_pos c16] at H
      have c16b0 : (t427 == 0) = true := beq_iff_eq.mpr c16
      have c16b1 : (t427 != 0) = false := bne_eq_false_iff_eq.mpr c16
      clear c16
      (first | rw [c16b0] | (simp only [i64_w, i32_w]; rw [c16b0]) | skip)
      have H' := Aside0.mk H
      clear H
      go_wp2
      go_meet
      case rel => exact ⟨_, ((t431 != 0)), (by first | rfl | (simp; done) | (simp [*]; done)), H', ⟨by first | omega | exact Nat.le_refl _⟩, ⟨by (with_reducible repeat (first | apply Kd.R_alloc | apply Kd.R_drewN | apply Kd.R_drew)); exact Kd.R_mono HO426.out (fun _ hk => hk.2)⟩, ⟨by (with_reducible repeat (first | apply Kd.R_alloc | apply Kd.R_drewN | apply Kd.R_drew)); exact Kd.R_mono HO430.out (fun _ hk => hk.2)⟩, ⟨by (with_reducible repeat (first | refine blk_drewN ?_ _ | refine blk_drew ?_ | refine blk_alloc ?_ _)); exact BK421.out⟩, ⟨by (with_reducible repeat (first | refine blk_drewN ?_ _ | refine blk_drew ?_ | refine blk_alloc ?_ _)); exact BK422.out⟩, ⟨by repeat (first | (with_reducible first | exact HB.out | apply below_alloc | apply pw_below_drewN | apply below_drew1 | refine below_set ?_ GE421.out | refine below_set ?_ GE422.out) | exact HB.out)⟩⟩
    case rest =>
      clear HC7
      try clear c1
      try clear p2
      try clear c4
      try clear c9
      try clear c11
      try clear c13
      try clear c16
      try clear c16b0
      try clear c16b1
      try clear hcz12_0
      try clear hcz12_1
      try clear hcz12_2
      try clear hcz14_0
      try clear hcz14_1
      try clear hcz14_2
      try clear hfz12_0
      try clear hfz12_1
      try clear hfz12_2
      try clear hfz14_0
      try clear hfz14_1
      try clear hfz14_2
      obtain ⟨kq, x33_6, rfl, HA, HJ6, HO_5, HO_7, BK421, BK422, HB⟩ := hcut
      cases kq with
      | zero => exact absurd HA.out (by simp [undercroftlaw03_RecordTwo.j0])
      | succ kj6 =>
        have H := HA.out
        clear HA
        simp only [undercroftlaw03_RecordTwo.j0] at H
        by_cases c17 : x33_6 = true
        · subst c17
          have H1 : (some true) = some r := by rw [if_pos rfl] at H; exact H
          clear H
          have H := H1
          clear H1
          obtain rfl := Option.some.inj H
          go_wp2
          go_ret
          exact ⟨by first | rfl | (simp [errW_none, errW_some] <;> rfl) | (simp [*, errW_none, errW_some] <;> rfl), by repeat (first | (with_reducible first | exact HB.out | apply below_alloc | apply pw_below_drewN | apply below_drew1 | refine below_set ?_ GE421.out | refine below_set ?_ GE422.out) | exact HB.out)⟩
        replace c17 := Bool.eq_false_iff.mpr c17
        subst c17
        have H1 : ((some (([] : List Int) : List Int)).bind fun y432 => (if y432.length + t424.length < 140737488355328 then ((some (y432 ++ t424 : List Int)).bind fun y435 => (if y435.length + t428.length < 140737488355328 then ((some (y435 ++ t428 : List Int)).bind fun y438 => ((record_Decode.f y438 a0_0).bind fun bt441 => (if bt441.2.2.2.2 = true then (undercroftlaw03_RecordTwo.j1 kj6 t424 t428 y438 bt441.2.2.2.1 ((wrap64 (256 * bt441.2.2.2.1)) != (t424.length : Int)) a0_0 l0_1 l0_2 a1_0 l1_1 l1_2 bt441.1 bt441.2.1 bt441.2.2.1) else (undercroftlaw03_RecordTwo.j1 kj6 t424 t428 y438 bt441.2.2.2.1 true a0_0 l0_1 l0_2 a1_0 l1_1 l1_2 bt441.1 bt441.2.1 bt441.2.2.1)))) else (none))) else (none))) = some r := by rw [if_neg (show ¬ (false = true) by decide)] at H; exact H
        clear H
        have H := H1
        clear H1
        obtain ⟨y432, hy432⟩ : ∃ y_ : List Int, y_ = (([] : List Int)) := ⟨_, rfl⟩
        replace H : (if y432.length + t424.length < 140737488355328 then ((some (y432 ++ t424 : List Int)).bind fun y435 => (if y435.length + t428.length < 140737488355328 then ((some (y435 ++ t428 : List Int)).bind fun y438 => ((record_Decode.f y438 a0_0).bind fun bt441 => (if bt441.2.2.2.2 = true then (undercroftlaw03_RecordTwo.j1 kj6 t424 t428 y438 bt441.2.2.2.1 ((wrap64 (256 * bt441.2.2.2.1)) != (t424.length : Int)) a0_0 l0_1 l0_2 a1_0 l1_1 l1_2 bt441.1 bt441.2.1 bt441.2.2.1) else (undercroftlaw03_RecordTwo.j1 kj6 t424 t428 y438 bt441.2.2.2.1 true a0_0 l0_1 l0_2 a1_0 l1_1 l1_2 bt441.1 bt441.2.1 bt441.2.2.1)))) else (none))) else (none)) = some r := by first | (rw [hy432]; with_reducible exact H) | (have H2_ := (Option.bind_some _ _).symm.trans H; rw [hy432]; with_reducible exact H2_) | (have H2_ := (Option.bind_some _ _).symm.trans H; with_reducible exact H2_) | with_reducible exact H | (rw [hy432]; exact H) | exact H
        have Ny432 := Aside0.mk hy432
        clear hy432
        by_cases c18 : y432.length + t424.length < 140737488355328
        rotate_left
        · rw [if_neg c18] at H
          exact absurd H (by simp)
        rw [if_pos c18] at H
        have LMc18 := Aside0.mk c18
        clear c18
        obtain ⟨y435, hy435⟩ : ∃ y_ : List Int, y_ = (y432 ++ t424) := ⟨_, rfl⟩
        replace H : (if y435.length + t428.length < 140737488355328 then ((some (y435 ++ t428 : List Int)).bind fun y438 => ((record_Decode.f y438 a0_0).bind fun bt441 => (if bt441.2.2.2.2 = true then (undercroftlaw03_RecordTwo.j1 kj6 t424 t428 y438 bt441.2.2.2.1 ((wrap64 (256 * bt441.2.2.2.1)) != (t424.length : Int)) a0_0 l0_1 l0_2 a1_0 l1_1 l1_2 bt441.1 bt441.2.1 bt441.2.2.1) else (undercroftlaw03_RecordTwo.j1 kj6 t424 t428 y438 bt441.2.2.2.1 true a0_0 l0_1 l0_2 a1_0 l1_1 l1_2 bt441.1 bt441.2.1 bt441.2.2.1)))) else (none)) = some r := by first | (rw [hy435]; with_reducible exact H) | (have H2_ := (Option.bind_some _ _).symm.trans H; rw [hy435]; with_reducible exact H2_) | (have H2_ := (Option.bind_some _ _).symm.trans H; with_reducible exact H2_) | with_reducible exact H | (rw [hy435]; exact H) | exact H
        have Ny435 := Aside0.mk hy435
        clear hy435
        by_cases c19 : y435.length + t428.length < 140737488355328
        rotate_left
        · rw [if_neg c19] at H
          exact absurd H (by simp)
        rw [if_pos c19] at H
        have LMc19 := Aside0.mk c19
        clear c19
        obtain ⟨y438, hy438⟩ : ∃ y_ : List Int, y_ = (y435 ++ t428) := ⟨_, rfl⟩
        replace H : ((record_Decode.f y438 a0_0).bind fun bt441 => (if bt441.2.2.2.2 = true then (undercroftlaw03_RecordTwo.j1 kj6 t424 t428 y438 bt441.2.2.2.1 ((wrap64 (256 * bt441.2.2.2.1)) != (t424.length : Int)) a0_0 l0_1 l0_2 a1_0 l1_1 l1_2 bt441.1 bt441.2.1 bt441.2.2.1) else (undercroftlaw03_RecordTwo.j1 kj6 t424 t428 y438 bt441.2.2.2.1 true a0_0 l0_1 l0_2 a1_0 l1_1 l1_2 bt441.1 bt441.2.1 bt441.2.2.1))) = some r := by first | (rw [hy438]; with_reducible exact H) | (have H2_ := (Option.bind_some _ _).symm.trans H; rw [hy438]; with_reducible exact H2_) | (have H2_ := (Option.bind_some _ _).symm.trans H; with_reducible exact H2_) | with_reducible exact H | (rw [hy438]; exact H) | exact H
        have Ny438 := Aside0.mk hy438
        clear hy438
        replace H := Option.bind_eq_some_iff.mp H
        obtain ⟨⟨t441, t442, t445, t448, t449⟩, A200, H⟩ := H
        replace H : (if t449 = true then (undercroftlaw03_RecordTwo.j1 kj6 t424 t428 y438 t448 ((wrap64 (256 * t448)) != (t424.length : Int)) a0_0 l0_1 l0_2 a1_0 l1_1 l1_2 t441 t442 t445) else (undercroftlaw03_RecordTwo.j1 kj6 t424 t428 y438 t448 true a0_0 l0_1 l0_2 a1_0 l1_1 l1_2 t441 t442 t445)) = some r := H
        have A20 := Aside0.mk A200
        clear A200
        have HC21 := Aside0.mk H
        clear H
        go_upto_region 9 with (first | ((with_reducible refine gate_dst (N := 34) rfl ?_); (try (refine gate_guard (by rfl) ?_; dsimp only)); refine Kd.R_lit (Kd.int .u8) _ 5 ?hg (N := 34) ?hd (xs := ([] : List Int)) (inner := []) (ok := fun _ => True) (okp := fun _ => True) ?hr ?hp (fun _ hk => hk) trivial (Below.refl _ _) (Nat.le_refl _) (by simp) ?_; (case hd => rfl); (case hg => rfl); (case hr => go_simp; first | done | rfl); (case hp => exact (Reps.none _ _)); intro v433 w22 ho23 hb hg_ hnew_; clear hg_ hnew_; (first | rw [← Ny432.out] at ho23 | (simp only [Int.reduceToNat] at ho23; rw [← Ny432.out] at ho23)); have n0_ := Aside0.mk (Kd.R_elder' (by (with_reducible repeat (first | apply Kd.R_alloc | apply Kd.R_drewN | apply Kd.R_drew)); exact HO_5.out) (Kd.R_base ho23) hb); have n1_ := Aside0.mk (Kd.R_elder' (by (with_reducible repeat (first | apply Kd.R_alloc | apply Kd.R_drewN | apply Kd.R_drew)); exact HO_7.out) (Kd.R_base ho23) hb); have n2_ := Aside0.mk (Kd.R_lower (Kd.R_new' (Kd.R_new' ho23 (Kd.R_lt (by (with_reducible repeat (first | apply Kd.R_alloc | apply Kd.R_drewN | apply Kd.R_drew)); exact HO_5.out))) (Kd.R_lt (by (with_reducible repeat (first | apply Kd.R_alloc | apply Kd.R_drewN | apply Kd.R_drew)); exact HO_7.out))) (below_size (by repeat (first | (with_reducible first | exact HB.out | apply below_alloc | apply pw_below_drewN | apply below_drew1 | refine below_set ?_ GE421.out | refine below_set ?_ GE422.out) | exact HB.out)))); have n3_ := Aside0.mk (blk_below (g := gb421) (o := .cells #[.int .u64 a0_0, .slice A0_1 l0_1.length c0_1, .slice A0_2 l0_2.length c0_2] 26 (0, 0)) (by (with_reducible repeat (first | refine blk_drewN ?_ _ | refine blk_drew ?_ | refine blk_alloc ?_ _)); exact BK421.out) hb); have n4_ := Aside0.mk (blk_below (g := gb422) (o := .cells #[.int .u64 a1_0, .slice A1_1 l1_1.length c1_1, .slice A1_2 l1_2.length c1_2] 26 (0, 0)) (by (with_reducible repeat (first | refine blk_drewN ?_ _ | refine blk_drew ?_ | refine blk_alloc ?_ _)); exact BK422.out) hb); have n5_ := Aside0.mk (below_step (by repeat (first | (with_reducible first | exact HB.out | apply below_alloc | apply pw_below_drewN | apply below_drew1 | refine below_set ?_ GE421.out | refine below_set ?_ GE422.out) | exact HB.out)) hb); clear HO_5; clear HO_7; clear BK421; clear BK422; clear HB; have HO_5 := n0_; have HO_7 := n1_; have HO434 := n2_; have BK421 := n3_; have BK422 := n4_; have HB := n5_; clear n0_ n1_ n2_ n3_ n4_ n5_; clear hb ho23; obtain ⟨Ao25, co25, eo25⟩ := Kd.R_slice HO_5.out; subst eo25) | ((with_reducible refine gate_builtin (b := .append) (xs := #[.tmp 34, .tmp 35]) rfl ?_); (try (refine gate_guard (by rfl) ?_; dsimp only)); at_builtin; refine Kd.R_append_rows (Kd.int .u8) (w0 := w) w.heap.size rfl (.tmp 34) (.tmp 35) 29 5 (.int .u8 0) 1 rfl Try.underlying29 info5 rfl (by decide) (by omega) v433 y432 t424 _ _ _ (fun k_ => some k_ ≠ (.slice Ao25 t424.length co25 : Value).ownBlock ∧ some k_ ≠ (v429 : Value).ownBlock) (fun _ => False) rfl rfl ?aO ?aR (fun _ _ h => h) (fun _ h => h.elim) ?aF ?aB ?aS ?aL ?_; (case aR => repeat (first | exact (Kd.R_reads' HO_5.out).2.2 | (with_reducible refine Kd.C_alloc ?_ _) | (with_reducible refine Kd.C_drewN ?_ _) | (with_reducible refine Kd.C_drew ?_))); (case aB => exact (by repeat (first | (with_reducible first | exact HB.out | apply below_alloc | apply pw_below_drewN | apply below_drew1 | refine below_set ?_ GE421.out | refine below_set ?_ GE422.out) | exact HB.out))); (case aF => exact (fun k_ hk => ⟨Kd.fresh' (Kd.R_lt (by (with_reducible repeat (first | apply Kd.R_alloc | apply Kd.R_drewN | apply Kd.R_drew)); exact HO_5.out)) k_ hk, Kd.fresh' (Kd.R_lt (by (with_reducible repeat (first | apply Kd.R_alloc | apply Kd.R_drewN | apply Kd.R_drew)); exact HO_7.out)) k_ hk⟩)); (case aO => exact (by (with_reducible repeat (first | apply Kd.R_alloc | apply Kd.R_drewN | apply Kd.R_drew)); exact Kd.R_mono HO434.out (fun _ hk => ⟨hk.1.2, hk.2⟩))); (case aS => exact (below_size (by repeat (first | (with_reducible first | exact HB.out | apply below_alloc | apply pw_below_drewN | apply below_drew1 | refine below_set ?_ GE421.out | refine below_set ?_ GE422.out) | exact HB.out)))); (case aL => have := LMc18.out; omega); intro v436 w24 ho hb hg hat; rw [← Ny435.out] at ho; have n0_ := Aside0.mk (Kd.R_after (ok := (fun k_ => some k_ ≠ (v429 : Value).ownBlock)) (by (with_reducible repeat (first | apply Kd.R_alloc | apply Kd.R_drewN | apply Kd.R_drew)); exact HO_5.out) hg hat); have n1_ := Aside0.mk (Kd.R_after (ok := (fun k_ => some k_ ≠ (.slice Ao25 t424.length co25 : Value).ownBlock)) (by (with_reducible repeat (first | apply Kd.R_alloc | apply Kd.R_drewN | apply Kd.R_drew)); exact HO_7.out) hg hat); have n2_ := Aside0.mk (blk_grown (g := gb421) (o := .cells #[.int .u64 a0_0, .slice A0_1 l0_1.length c0_1, .slice A0_2 l0_2.length c0_2] 26 (0, 0)) (by (with_reducible repeat (first | refine blk_drewN ?_ _ | refine blk_drew ?_ | refine blk_alloc ?_ _)); exact BK421.out) hg (Kd.R_ne HO434.out BK421.out (by decide))); have n3_ := Aside0.mk (blk_grown (g := gb422) (o := .cells #[.int .u64 a1_0, .slice A1_1 l1_1.length c1_1, .slice A1_2 l1_2.length c1_2] 26 (0, 0)) (by (with_reducible repeat (first | refine blk_drewN ?_ _ | refine blk_drew ?_ | refine blk_alloc ?_ _)); exact BK422.out) hg (Kd.R_ne HO434.out BK422.out (by decide))); have n4_ := Aside0.mk (hb); have n5_ := Aside0.mk (ho); clear HO_5; clear HO_7; clear BK421; clear BK422; clear HB; clear HO434; have HO_5 := n0_; have HO_7 := n1_; have BK421 := n2_; have BK422 := n3_; have HB := n4_; have HO437 := n5_; clear n0_ n1_ n2_ n3_ n4_ n5_; clear ho hb hg hat; obtain ⟨Ao27, co27, eo27⟩ := Kd.R_slice HO_7.out; subst eo27) | ((with_reducible refine gate_builtin (b := .append) (xs := #[.tmp 36, .tmp 37]) rfl ?_); (try (refine gate_guard (by rfl) ?_; dsimp only)); at_builtin; refine Kd.R_append_rows (Kd.int .u8) (w0 := w) w.heap.size rfl (.tmp 36) (.tmp 37) 29 5 (.int .u8 0) 1 rfl Try.underlying29 info5 rfl (by decide) (by omega) v436 y435 t428 _ _ _ (fun k_ => some k_ ≠ (.slice Ao25 t424.length co25 : Value).ownBlock ∧ some k_ ≠ (.slice Ao27 t428.length co27 : Value).ownBlock) (fun _ => False) rfl rfl ?aO ?aR (fun _ _ h => h) (fun _ h => h.elim) ?aF ?aB ?aS ?aL ?_; (case aR => repeat (first | exact (Kd.R_reads' HO_7.out).2.2 | (with_reducible refine Kd.C_alloc ?_ _) | (with_reducible refine Kd.C_drewN ?_ _) | (with_reducible refine Kd.C_drew ?_))); (case aB => exact (by repeat (first | (with_reducible first | exact HB.out | apply below_alloc | apply pw_below_drewN | apply below_drew1 | refine below_set ?_ GE421.out | refine below_set ?_ GE422.out) | exact HB.out))); (case aF => exact (fun k_ hk => ⟨Kd.fresh' (Kd.R_lt (by (with_reducible repeat (first | apply Kd.R_alloc | apply Kd.R_drewN | apply Kd.R_drew)); exact HO_5.out)) k_ hk, Kd.fresh' (Kd.R_lt (by (with_reducible repeat (first | apply Kd.R_alloc | apply Kd.R_drewN | apply Kd.R_drew)); exact HO_7.out)) k_ hk⟩)); (case aO => exact (by (with_reducible repeat (first | apply Kd.R_alloc | apply Kd.R_drewN | apply Kd.R_drew)); exact HO437.out)); (case aS => exact (below_size (by repeat (first | (with_reducible first | exact HB.out | apply below_alloc | apply pw_below_drewN | apply below_drew1 | refine below_set ?_ GE421.out | refine below_set ?_ GE422.out) | exact HB.out)))); (case aL => have := LMc19.out; omega); intro v439 w26 ho hb hg hat; rw [← Ny438.out] at ho; have n0_ := Aside0.mk (Kd.R_after (ok := (fun k_ => some k_ ≠ (.slice Ao27 t428.length co27 : Value).ownBlock)) (by (with_reducible repeat (first | apply Kd.R_alloc | apply Kd.R_drewN | apply Kd.R_drew)); exact HO_5.out) hg hat); have n1_ := Aside0.mk (Kd.R_after (ok := (fun k_ => some k_ ≠ (.slice Ao25 t424.length co25 : Value).ownBlock)) (by (with_reducible repeat (first | apply Kd.R_alloc | apply Kd.R_drewN | apply Kd.R_drew)); exact HO_7.out) hg hat); have n2_ := Aside0.mk (blk_grown (g := gb421) (o := .cells #[.int .u64 a0_0, .slice A0_1 l0_1.length c0_1, .slice A0_2 l0_2.length c0_2] 26 (0, 0)) (by (with_reducible repeat (first | refine blk_drewN ?_ _ | refine blk_drew ?_ | refine blk_alloc ?_ _)); exact BK421.out) hg (Kd.R_ne HO437.out BK421.out (by decide))); have n3_ := Aside0.mk (blk_grown (g := gb422) (o := .cells #[.int .u64 a1_0, .slice A1_1 l1_1.length c1_1, .slice A1_2 l1_2.length c1_2] 26 (0, 0)) (by (with_reducible repeat (first | refine blk_drewN ?_ _ | refine blk_drew ?_ | refine blk_alloc ?_ _)); exact BK422.out) hg (Kd.R_ne HO437.out BK422.out (by decide))); have n4_ := Aside0.mk (hb); have n5_ := Aside0.mk (ho); clear HO_5; clear HO_7; clear BK421; clear BK422; clear HB; clear HO437; have HO_5 := n0_; have HO_7 := n1_; have BK421 := n2_; have BK422 := n3_; have HB := n4_; have HO440 := n5_; clear n0_ n1_ n2_ n3_ n4_ n5_; clear ho hb hg hat; have hnb28 := NB421_422.out; have hnc28 := NB422_421.out; have hcz29_0 : w26.cell? ⟨gb421, 0, none⟩ = some (.int .u64 a0_0) := (blk_cell BK421.out 0).trans rfl; have hcz29_1 : w26.cell? ⟨gb421, 1, none⟩ = some (.slice A0_1 l0_1.length c0_1) := (blk_cell BK421.out 1).trans rfl; have hcz29_2 : w26.cell? ⟨gb421, 2, none⟩ = some (.slice A0_2 l0_2.length c0_2) := (blk_cell BK421.out 2).trans rfl; have hfz29_0 := blk_frozen BK421.out 0; have hfz29_1 := blk_frozen BK421.out 1; have hfz29_2 := blk_frozen BK421.out 2; obtain ⟨Ao30, co30, eo30⟩ := Kd.R_slice HO440.out; subst eo30) | ((with_reducible refine gate_callee (f := 16) rfl ?_); refine goesL_ (some 43) rfl rfl Try.func16 (by kernel_rfl) rfl #[.slice Ao30 y438.length co30, .int .u64 a0_0] rfl (by (try simp only [List.map_toArray, List.map_cons, List.map_nil]); first | done | rfl | (simp only [List.length_drop, List.length_take]; rfl)) ?_; (with_reducible refine (record_Decode.calls _ _ y438 a0_0 t441 t442 t445 t448 t449 _ ?side1 ?side2 A20.out).mono ?_); (case side1 => repeat (first | exact (Kd.R_reads' HO440.out).2.2 | (with_reducible refine Kd.C_alloc ?_ _) | (with_reducible refine Kd.C_drewN ?_ _) | (with_reducible refine Kd.C_drew ?_))); (case side2 => exact (Kd.R_reads' HO440.out).2.1); rintro e w31 ⟨v443, v446, rfl, ho0, ho1, hb⟩; refine ⟨_, rfl, ?_⟩; have n0_ := Aside0.mk (Kd.R_below (by (with_reducible repeat (first | apply Kd.R_alloc | apply Kd.R_drewN | apply Kd.R_drew)); exact HO_5.out) hb); have n1_ := Aside0.mk (Kd.R_below (by (with_reducible repeat (first | apply Kd.R_alloc | apply Kd.R_drewN | apply Kd.R_drew)); exact HO_7.out) hb); have n2_ := Aside0.mk (Kd.R_below (by (with_reducible repeat (first | apply Kd.R_alloc | apply Kd.R_drewN | apply Kd.R_drew)); exact HO440.out) hb); have n3_ := Aside0.mk (Kd.S_lower (Kd.S_new' (Kd.S_new' (Kd.S_new' ho0 (Kd.R_lt (by (with_reducible repeat (first | apply Kd.R_alloc | apply Kd.R_drewN | apply Kd.R_drew)); exact HO_5.out))) (Kd.R_lt (by (with_reducible repeat (first | apply Kd.R_alloc | apply Kd.R_drewN | apply Kd.R_drew)); exact HO_7.out))) (Kd.R_lt (by (with_reducible repeat (first | apply Kd.R_alloc | apply Kd.R_drewN | apply Kd.R_drew)); exact HO440.out))) (below_size (by repeat (first | (with_reducible first | exact HB.out | apply below_alloc | apply pw_below_drewN | apply below_drew1 | refine below_set ?_ GE421.out | refine below_set ?_ GE422.out) | exact HB.out)))); have n4_ := Aside0.mk (Kd.R_lower ho1 (below_size (by repeat (first | (with_reducible first | exact HB.out | apply below_alloc | apply pw_below_drewN | apply below_drew1 | refine below_set ?_ GE421.out | refine below_set ?_ GE422.out) | exact HB.out)))); have n5_ := Aside0.mk (blk_below (g := gb421) (o := .cells #[.int .u64 a0_0, .slice A0_1 l0_1.length c0_1, .slice A0_2 l0_2.length c0_2] 26 (0, 0)) (by (with_reducible repeat (first | refine blk_drewN ?_ _ | refine blk_drew ?_ | refine blk_alloc ?_ _)); exact BK421.out) hb); have n6_ := Aside0.mk (blk_below (g := gb422) (o := .cells #[.int .u64 a1_0, .slice A1_1 l1_1.length c1_1, .slice A1_2 l1_2.length c1_2] 26 (0, 0)) (by (with_reducible repeat (first | refine blk_drewN ?_ _ | refine blk_drew ?_ | refine blk_alloc ?_ _)); exact BK422.out) hb); have n7_ := Aside0.mk (below_step (by repeat (first | (with_reducible first | exact HB.out | apply below_alloc | apply pw_below_drewN | apply below_drew1 | refine below_set ?_ GE421.out | refine below_set ?_ GE422.out) | exact HB.out)) hb); clear HO_5; clear HO_7; clear HO440; clear BK421; clear BK422; clear HB; have HO_5 := n0_; have HO_7 := n1_; have HO440 := n2_; have HO444 := n3_; have HO447 := n4_; have BK421 := n5_; have BK422 := n6_; have HB := n7_; clear n0_ n1_ n2_ n3_ n4_ n5_ n6_ n7_; (try clear hb); (try clear hb2); (try clear hk); (try clear hi); (try clear ho0); (try clear ho1)) | ((with_reducible refine gate_dst (N := 10) rfl ?_); (try (refine gate_guard (by rfl) ?_; dsimp only)); refine box_event ?hg (N := 10) ?hd (cs := #[.int .u64 0, .slice none 0 0, .slice none 0 0]) (t := 26) ?hr ?_; (case hd => rfl); (case hg => rfl); (case hr => go_simp; first | done | rfl); intro gb450 hg w32 hbox hb; have n0_ := Aside0.mk (Kd.R_below (by (with_reducible repeat (first | apply Kd.R_alloc | apply Kd.R_drewN | apply Kd.R_drew)); exact HO_5.out) hb); have n1_ := Aside0.mk (Kd.R_below (by (with_reducible repeat (first | apply Kd.R_alloc | apply Kd.R_drewN | apply Kd.R_drew)); exact HO_7.out) hb); have n2_ := Aside0.mk (Kd.R_below (by (with_reducible repeat (first | apply Kd.R_alloc | apply Kd.R_drewN | apply Kd.R_drew)); exact HO440.out) hb); have n3_ := Aside0.mk (Kd.S_below (by (with_reducible repeat (first | apply Kd.S_alloc | apply Kd.S_drewN | apply Kd.S_drew)); exact HO444.out) hb); have n4_ := Aside0.mk (Kd.R_below (by (with_reducible repeat (first | apply Kd.R_alloc | apply Kd.R_drewN | apply Kd.R_drew)); exact HO447.out) hb); have n5_ := Aside0.mk (blk_below (g := gb421) (o := .cells #[.int .u64 a0_0, .slice A0_1 l0_1.length c0_1, .slice A0_2 l0_2.length c0_2] 26 (0, 0)) (by (with_reducible repeat (first | refine blk_drewN ?_ _ | refine blk_drew ?_ | refine blk_alloc ?_ _)); exact BK421.out) hb); have n6_ := Aside0.mk (blk_below (g := gb422) (o := .cells #[.int .u64 a1_0, .slice A1_1 l1_1.length c1_1, .slice A1_2 l1_2.length c1_2] 26 (0, 0)) (by (with_reducible repeat (first | refine blk_drewN ?_ _ | refine blk_drew ?_ | refine blk_alloc ?_ _)); exact BK422.out) hb); have n7_ := Aside0.mk (below_step (by repeat (first | (with_reducible first | exact HB.out | apply below_alloc | apply pw_below_drewN | apply below_drew1 | refine below_set ?_ GE421.out | refine below_set ?_ GE422.out) | exact HB.out)) hb); have n8_ := Aside0.mk (hbox); have n9_ := Aside0.mk ((by rw [hg]; exact (below_size (by repeat (first | (with_reducible first | exact HB.out | apply below_alloc | apply pw_below_drewN | apply below_drew1 | refine below_set ?_ GE421.out | refine below_set ?_ GE422.out) | exact HB.out))) : w.heap.size ≤ gb450)); have n10_ := Aside0.mk ((by rw [hg]; exact (below_size (by repeat (first | (with_reducible first | exact HB.out | apply below_alloc | apply pw_below_drewN | apply below_drew1 | refine below_set ?_ GE421.out | refine below_set ?_ GE422.out) | exact HB.out))) : w.heap.size ≤ gb450)); have n11_ := Aside0.mk ((by rw [hg]; exact Nat.ne_of_lt (blk_lt (g := gb421) (o := .cells #[.int .u64 a0_0, .slice A0_1 l0_1.length c0_1, .slice A0_2 l0_2.length c0_2] 26 (0, 0)) (by (with_reducible repeat (first | refine blk_drewN ?_ _ | refine blk_drew ?_ | refine blk_alloc ?_ _)); exact BK421.out)) : gb421 ≠ gb450)); have n12_ := Aside0.mk ((by rw [hg]; exact Nat.ne_of_gt (blk_lt (g := gb421) (o := .cells #[.int .u64 a0_0, .slice A0_1 l0_1.length c0_1, .slice A0_2 l0_2.length c0_2] 26 (0, 0)) (by (with_reducible repeat (first | refine blk_drewN ?_ _ | refine blk_drew ?_ | refine blk_alloc ?_ _)); exact BK421.out)) : gb450 ≠ gb421)); have n13_ := Aside0.mk ((by rw [hg]; exact Nat.ne_of_lt (blk_lt (g := gb422) (o := .cells #[.int .u64 a1_0, .slice A1_1 l1_1.length c1_1, .slice A1_2 l1_2.length c1_2] 26 (0, 0)) (by (with_reducible repeat (first | refine blk_drewN ?_ _ | refine blk_drew ?_ | refine blk_alloc ?_ _)); exact BK422.out)) : gb422 ≠ gb450)); have n14_ := Aside0.mk ((by rw [hg]; exact Nat.ne_of_gt (blk_lt (g := gb422) (o := .cells #[.int .u64 a1_0, .slice A1_1 l1_1.length c1_1, .slice A1_2 l1_2.length c1_2] 26 (0, 0)) (by (with_reducible repeat (first | refine blk_drewN ?_ _ | refine blk_drew ?_ | refine blk_alloc ?_ _)); exact BK422.out)) : gb450 ≠ gb422)); clear HO_5; clear HO_7; clear HO440; clear HO444; clear HO447; clear BK421; clear BK422; clear HB; have HO_5 := n0_; have HO_7 := n1_; have HO440 := n2_; have HO444 := n3_; have HO447 := n4_; have BK421 := n5_; have BK422 := n6_; have HB := n7_; have BK450 := n8_; have GW450 := n9_; have GE450 := n10_; have NB421_450 := n11_; have NB450_421 := n12_; have NB422_450 := n13_; have NB450_422 := n14_; clear n0_ n1_ n2_ n3_ n4_ n5_ n6_ n7_ n8_ n9_ n10_ n11_ n12_ n13_ n14_; clear hb hbox hg; have hnb33 := NB450_421.out; have hnc33 := NB421_450.out; have hnb34 := NB450_422.out; have hnc34 := NB422_450.out; have hcz35_0 : w32.cell? ⟨gb450, 0, none⟩ = some (.int .u64 0) := (blk_cell BK450.out 0).trans rfl; have hcz35_1 : w32.cell? ⟨gb450, 1, none⟩ = some (.slice none 0 0) := (blk_cell BK450.out 1).trans rfl; have hcz35_2 : w32.cell? ⟨gb450, 2, none⟩ = some (.slice none 0 0) := (blk_cell BK450.out 2).trans rfl; have hfz35_0 := blk_frozen BK450.out 0; have hfz35_1 := blk_frozen BK450.out 1; have hfz35_2 := blk_frozen BK450.out 2; obtain ⟨Ao36, co36, eo36⟩ := Kd.S_slice HO444.out; subst eo36; obtain ⟨Ao37, co37, eo37⟩ := Kd.R_slice HO447.out; subst eo37))
        (try simp only [Act.put, List.setIfInBounds_toArray, List.set_cons_zero, List.set_cons_succ])
        go_cut [55] (fun v55 wc => ∃ (kq : Nat) (x55_20 : Bool), v55 = .bool x55_20 ∧ Aside0 (undercroftlaw03_RecordTwo.j1 kq t424 t428 y438 t448 x55_20 a0_0 l0_1 l0_2 a1_0 l1_1 l1_2 t441 t442 t445 = some r) ∧ Aside0 (kq ≤ kj6) ∧ Aside0 (Kd.R (Kd.int .u8) 5 wc w.heap.size (fun k_ => some k_ ≠ ((.slice Ao27 t428.length co27) : Value).ownBlock ∧ some k_ ≠ ((.slice Ao30 y438.length co30) : Value).ownBlock) (.slice Ao25 t424.length co25) t424) ∧ Aside0 (Kd.R (Kd.int .u8) 5 wc w.heap.size (fun k_ => some k_ ≠ ((.slice Ao25 t424.length co25) : Value).ownBlock ∧ some k_ ≠ ((.slice Ao30 y438.length co30) : Value).ownBlock) (.slice Ao27 t428.length co27) t428) ∧ Aside0 (Kd.R (Kd.int .u8) 5 wc w.heap.size (fun k_ => some k_ ≠ ((.slice Ao25 t424.length co25) : Value).ownBlock ∧ some k_ ≠ ((.slice Ao27 t428.length co27) : Value).ownBlock) (.slice Ao30 y438.length co30) y438) ∧ Aside0 (Kd.S k43 43 wc w.heap.size (fun k_ => some k_ ≠ ((.slice Ao25 t424.length co25) : Value).ownBlock ∧ some k_ ≠ ((.slice Ao27 t428.length co27) : Value).ownBlock ∧ some k_ ≠ ((.slice Ao30 y438.length co30) : Value).ownBlock) (.slice Ao36 t442.length co36) t442) ∧ Aside0 (Kd.R (Kd.int .i64) 3 wc w.heap.size (fun _ => True) (.slice Ao37 t445.length co37) t445) ∧ Aside0 (wc.heap[gb421]? = some (.cells #[.int .u64 a0_0, (.slice A0_1 l0_1.length c0_1), (.slice A0_2 l0_2.length c0_2)] 26 (0, 0))) ∧ Aside0 (wc.heap[gb422]? = some (.cells #[.int .u64 a1_0, (.slice A1_1 l1_1.length c1_1), (.slice A1_2 l1_2.length c1_2)] 26 (0, 0))) ∧ Aside0 (wc.heap[gb450]? = some (.cells #[.int .u64 t441, (.slice Ao36 t442.length co36), (.slice Ao37 t445.length co37)] 26 (0, 0))) ∧ Aside0 (Below w.heap.size w wc))
        case first =>
          have H := HC21.out
          clear HC21
          by_cases c38 : t449 = true
          rotate_left
          · replace c38 := Bool.eq_false_iff.mpr c38
            subst c38
            have H1 : (undercroftlaw03_RecordTwo.j1 kj6 t424 t428 y438 t448 true a0_0 l0_1 l0_2 a1_0 l1_1 l1_2 t441 t442 t445) = some r := by rw [if_neg (show ¬ (false = true) by decide)] at H; exact H
            clear H
            have H := H1
            clear H1
            have H' := Aside0.mk H
            clear H
            go_wp2
            go_meet
            case rel => exact ⟨_, (true), (by first | rfl | (simp; done) | (simp [*]; done)), H', ⟨by have := HJ6.out; first | omega | exact Nat.le_refl _⟩, ⟨by (with_reducible repeat (first | apply Kd.R_alloc | apply Kd.R_drewN | apply Kd.R_drew)); exact Kd.R_mono (Kd.R_far (p := ⟨gb450, 2, none⟩) (Kd.R_far (p := ⟨gb450, 1, none⟩) (Kd.R_far (p := ⟨gb450, 0, none⟩) (Kd.R_types HO_5.out BK450.out (by decide)) (fun _ hk => hk.2) (.int .u64 t441)) (fun _ hk => hk.2) (.slice Ao36 t442.length co36)) (fun _ hk => hk.2) (.slice Ao37 t445.length co37)) (fun _ hk => ⟨hk.1.1, hk.1.2⟩)⟩, ⟨by (with_reducible repeat (first | apply Kd.R_alloc | apply Kd.R_drewN | apply Kd.R_drew)); exact Kd.R_mono (Kd.R_far (p := ⟨gb450, 2, none⟩) (Kd.R_far (p := ⟨gb450, 1, none⟩) (Kd.R_far (p := ⟨gb450, 0, none⟩) (Kd.R_types HO_7.out BK450.out (by decide)) (fun _ hk => hk.2) (.int .u64 t441)) (fun _ hk => hk.2) (.slice Ao36 t442.length co36)) (fun _ hk => hk.2) (.slice Ao37 t445.length co37)) (fun _ hk => ⟨hk.1.1, hk.1.2⟩)⟩, ⟨by (with_reducible repeat (first | apply Kd.R_alloc | apply Kd.R_drewN | apply Kd.R_drew)); exact Kd.R_mono (Kd.R_far (p := ⟨gb450, 2, none⟩) (Kd.R_far (p := ⟨gb450, 1, none⟩) (Kd.R_far (p := ⟨gb450, 0, none⟩) (Kd.R_types HO440.out BK450.out (by decide)) (fun _ hk => hk.2) (.int .u64 t441)) (fun _ hk => hk.2) (.slice Ao36 t442.length co36)) (fun _ hk => hk.2) (.slice Ao37 t445.length co37)) (fun _ hk => ⟨hk.1.1, hk.1.2⟩)⟩, ⟨by (with_reducible repeat (first | apply Kd.S_alloc | apply Kd.S_drewN | apply Kd.S_drew)); exact Kd.S_mono (Kd.S_far (p := ⟨gb450, 2, none⟩) (Kd.S_far (p := ⟨gb450, 1, none⟩) (Kd.S_far (p := ⟨gb450, 0, none⟩) (Kd.S_types HO444.out BK450.out (by decide)) (fun _ hk => hk.2) (.int .u64 t441)) (fun _ hk => hk.2) (.slice Ao36 t442.length co36)) (fun _ hk => hk.2) (.slice Ao37 t445.length co37)) (fun _ hk => ⟨hk.1.1.1.2, ⟨hk.1.1.2, hk.1.2⟩⟩)⟩, ⟨by (with_reducible repeat (first | apply Kd.R_alloc | apply Kd.R_drewN | apply Kd.R_drew)); exact Kd.R_mono (Kd.R_far (p := ⟨gb450, 2, none⟩) (Kd.R_far (p := ⟨gb450, 1, none⟩) (Kd.R_far (p := ⟨gb450, 0, none⟩) (Kd.R_types HO447.out BK450.out (by decide)) (fun _ hk => hk.2) (.int .u64 t441)) (fun _ hk => hk.2) (.slice Ao36 t442.length co36)) (fun _ hk => hk.2) (.slice Ao37 t445.length co37)) (fun _ hk => trivial)⟩, ⟨by (with_reducible repeat (first | refine blk_drewN ?_ _ | refine blk_drew ?_ | refine blk_alloc ?_ _)); refine blk_far ?_ NB421_450.out _; (with_reducible repeat (first | refine blk_drewN ?_ _ | refine blk_drew ?_ | refine blk_alloc ?_ _)); refine blk_far ?_ NB421_450.out _; (with_reducible repeat (first | refine blk_drewN ?_ _ | refine blk_drew ?_ | refine blk_alloc ?_ _)); refine blk_far ?_ NB421_450.out _; (with_reducible repeat (first | refine blk_drewN ?_ _ | refine blk_drew ?_ | refine blk_alloc ?_ _)); exact BK421.out⟩, ⟨by (with_reducible repeat (first | refine blk_drewN ?_ _ | refine blk_drew ?_ | refine blk_alloc ?_ _)); refine blk_far ?_ NB422_450.out _; (with_reducible repeat (first | refine blk_drewN ?_ _ | refine blk_drew ?_ | refine blk_alloc ?_ _)); refine blk_far ?_ NB422_450.out _; (with_reducible repeat (first | refine blk_drewN ?_ _ | refine blk_drew ?_ | refine blk_alloc ?_ _)); refine blk_far ?_ NB422_450.out _; (with_reducible repeat (first | refine blk_drewN ?_ _ | refine blk_drew ?_ | refine blk_alloc ?_ _)); exact BK422.out⟩, ⟨by (with_reducible repeat (first | refine blk_drewN ?_ _ | refine blk_drew ?_ | refine blk_alloc ?_ _)); refine blk_put (cs := #[.int .u64 t441, .slice Ao36 t442.length co36, .slice none 0 0]) ?_ 2 _ rfl; (with_reducible repeat (first | refine blk_drewN ?_ _ | refine blk_drew ?_ | refine blk_alloc ?_ _)); refine blk_put (cs := #[.int .u64 t441, .slice none 0 0, .slice none 0 0]) ?_ 1 _ rfl; (with_reducible repeat (first | refine blk_drewN ?_ _ | refine blk_drew ?_ | refine blk_alloc ?_ _)); refine blk_put (cs := #[.int .u64 0, .slice none 0 0, .slice none 0 0]) ?_ 0 _ rfl; (with_reducible repeat (first | refine blk_drewN ?_ _ | refine blk_drew ?_ | refine blk_alloc ?_ _)); exact BK450.out⟩, ⟨by repeat (first | (with_reducible first | exact HB.out | apply below_alloc | apply pw_below_drewN | apply below_drew1 | refine below_set ?_ GE421.out | refine below_set ?_ GE422.out | refine below_set ?_ GE450.out) | exact HB.out)⟩⟩
          subst c38
          have H1 : (undercroftlaw03_RecordTwo.j1 kj6 t424 t428 y438 t448 ((wrap64 (256 * t448)) != (t424.length : Int)) a0_0 l0_1 l0_2 a1_0 l1_1 l1_2 t441 t442 t445) = some r := by rw [if_pos rfl] at H; exact H
          clear H
          have H := H1
          clear H1
          have H' := Aside0.mk H
          clear H
          go_wp2
          go_meet
          case rel => exact ⟨_, (((wrap64 (256 * t448)) != (t424.length : Int))), (by first | rfl | (simp; done) | (simp [*]; done)), H', ⟨by have := HJ6.out; first | omega | exact Nat.le_refl _⟩, ⟨by (with_reducible repeat (first | apply Kd.R_alloc | apply Kd.R_drewN | apply Kd.R_drew)); exact Kd.R_mono (Kd.R_far (p := ⟨gb450, 2, none⟩) (Kd.R_far (p := ⟨gb450, 1, none⟩) (Kd.R_far (p := ⟨gb450, 0, none⟩) (Kd.R_types HO_5.out BK450.out (by decide)) (fun _ hk => hk.2) (.int .u64 t441)) (fun _ hk => hk.2) (.slice Ao36 t442.length co36)) (fun _ hk => hk.2) (.slice Ao37 t445.length co37)) (fun _ hk => ⟨hk.1.1, hk.1.2⟩)⟩, ⟨by (with_reducible repeat (first | apply Kd.R_alloc | apply Kd.R_drewN | apply Kd.R_drew)); exact Kd.R_mono (Kd.R_far (p := ⟨gb450, 2, none⟩) (Kd.R_far (p := ⟨gb450, 1, none⟩) (Kd.R_far (p := ⟨gb450, 0, none⟩) (Kd.R_types HO_7.out BK450.out (by decide)) (fun _ hk => hk.2) (.int .u64 t441)) (fun _ hk => hk.2) (.slice Ao36 t442.length co36)) (fun _ hk => hk.2) (.slice Ao37 t445.length co37)) (fun _ hk => ⟨hk.1.1, hk.1.2⟩)⟩, ⟨by (with_reducible repeat (first | apply Kd.R_alloc | apply Kd.R_drewN | apply Kd.R_drew)); exact Kd.R_mono (Kd.R_far (p := ⟨gb450, 2, none⟩) (Kd.R_far (p := ⟨gb450, 1, none⟩) (Kd.R_far (p := ⟨gb450, 0, none⟩) (Kd.R_types HO440.out BK450.out (by decide)) (fun _ hk => hk.2) (.int .u64 t441)) (fun _ hk => hk.2) (.slice Ao36 t442.length co36)) (fun _ hk => hk.2) (.slice Ao37 t445.length co37)) (fun _ hk => ⟨hk.1.1, hk.1.2⟩)⟩, ⟨by (with_reducible repeat (first | apply Kd.S_alloc | apply Kd.S_drewN | apply Kd.S_drew)); exact Kd.S_mono (Kd.S_far (p := ⟨gb450, 2, none⟩) (Kd.S_far (p := ⟨gb450, 1, none⟩) (Kd.S_far (p := ⟨gb450, 0, none⟩) (Kd.S_types HO444.out BK450.out (by decide)) (fun _ hk => hk.2) (.int .u64 t441)) (fun _ hk => hk.2) (.slice Ao36 t442.length co36)) (fun _ hk => hk.2) (.slice Ao37 t445.length co37)) (fun _ hk => ⟨hk.1.1.1.2, ⟨hk.1.1.2, hk.1.2⟩⟩)⟩, ⟨by (with_reducible repeat (first | apply Kd.R_alloc | apply Kd.R_drewN | apply Kd.R_drew)); exact Kd.R_mono (Kd.R_far (p := ⟨gb450, 2, none⟩) (Kd.R_far (p := ⟨gb450, 1, none⟩) (Kd.R_far (p := ⟨gb450, 0, none⟩) (Kd.R_types HO447.out BK450.out (by decide)) (fun _ hk => hk.2) (.int .u64 t441)) (fun _ hk => hk.2) (.slice Ao36 t442.length co36)) (fun _ hk => hk.2) (.slice Ao37 t445.length co37)) (fun _ hk => trivial)⟩, ⟨by (with_reducible repeat (first | refine blk_drewN ?_ _ | refine blk_drew ?_ | refine blk_alloc ?_ _)); refine blk_far ?_ NB421_450.out _; (with_reducible repeat (first | refine blk_drewN ?_ _ | refine blk_drew ?_ | refine blk_alloc ?_ _)); refine blk_far ?_ NB421_450.out _; (with_reducible repeat (first | refine blk_drewN ?_ _ | refine blk_drew ?_ | refine blk_alloc ?_ _)); refine blk_far ?_ NB421_450.out _; (with_reducible repeat (first | refine blk_drewN ?_ _ | refine blk_drew ?_ | refine blk_alloc ?_ _)); exact BK421.out⟩, ⟨by (with_reducible repeat (first | refine blk_drewN ?_ _ | refine blk_drew ?_ | refine blk_alloc ?_ _)); refine blk_far ?_ NB422_450.out _; (with_reducible repeat (first | refine blk_drewN ?_ _ | refine blk_drew ?_ | refine blk_alloc ?_ _)); refine blk_far ?_ NB422_450.out _; (with_reducible repeat (first | refine blk_drewN ?_ _ | refine blk_drew ?_ | refine blk_alloc ?_ _)); refine blk_far ?_ NB422_450.out _; (with_reducible repeat (first | refine blk_drewN ?_ _ | refine blk_drew ?_ | refine blk_alloc ?_ _)); exact BK422.out⟩, ⟨by (with_reducible repeat (first | refine blk_drewN ?_ _ | refine blk_drew ?_ | refine blk_alloc ?_ _)); refine blk_put (cs := #[.int .u64 t441, .slice Ao36 t442.length co36, .slice none 0 0]) ?_ 2 _ rfl; (with_reducible repeat (first | refine blk_drewN ?_ _ | refine blk_drew ?_ | refine blk_alloc ?_ _)); refine blk_put (cs := #[.int .u64 t441, .slice none 0 0, .slice none 0 0]) ?_ 1 _ rfl; (with_reducible repeat (first | refine blk_drewN ?_ _ | refine blk_drew ?_ | refine blk_alloc ?_ _)); refine blk_put (cs := #[.int .u64 0, .slice none 0 0, .slice none 0 0]) ?_ 0 _ rfl; (with_reducible repeat (first | refine blk_drewN ?_ _ | refine blk_drew ?_ | refine blk_alloc ?_ _)); exact BK450.out⟩, ⟨by repeat (first | (with_reducible first | exact HB.out | apply below_alloc | apply pw_below_drewN | apply below_drew1 | refine below_set ?_ GE421.out | refine below_set ?_ GE422.out | refine below_set ?_ GE450.out) | exact HB.out)⟩⟩
        case rest =>
          clear HC21
          try clear c1
          try clear c2
          try clear p2
          try clear c3
          try clear c4
          try clear p6
          try clear c9
          try clear c11
          try clear c13
          try clear c16
          try clear c16b0
          try clear c16b1
          try clear c17
          try clear c18
          try clear c19
          try clear c28
          try clear c33
          try clear c34
          try clear c38
          try clear hcz12_0
          try clear hcz12_1
          try clear hcz12_2
          try clear hcz14_0
          try clear hcz14_1
          try clear hcz14_2
          try clear hcz29_0
          try clear hcz29_1
          try clear hcz29_2
          try clear hcz35_0
          try clear hcz35_1
          try clear hcz35_2
          try clear hfz12_0
          try clear hfz12_1
          try clear hfz12_2
          try clear hfz14_0
          try clear hfz14_1
          try clear hfz14_2
          try clear hfz29_0
          try clear hfz29_1
          try clear hfz29_2
          try clear hfz35_0
          try clear hfz35_1
          try clear hfz35_2
          try clear p2
          obtain ⟨kq, x55_20, rfl, HA, HJ20, HO_5, HO_7, HO_9, HO_451001, HO_451002, BK421, BK422, BK450, HB⟩ := hcut
          cases kq with
          | zero => exact absurd HA.out (by simp [undercroftlaw03_RecordTwo.j1])
          | succ kj20 =>
            have H := HA.out
            clear HA
            simp only [undercroftlaw03_RecordTwo.j1] at H
            by_cases c39 : x55_20 = true
            · subst c39
              have H1 : (some false) = some r := by rw [if_pos rfl] at H; exact H
              clear H
              have H := H1
              clear H1
              exact absurd (Option.some.inj H) (by rw [hT]; decide)
            replace c39 := Bool.eq_false_iff.mpr c39
            subst c39
            have H1 : (if 0 ≤ (wrap64 (256 * t448)) then (if (wrap64 (256 * t448)) ≤ (y438.length : Int) then ((record_Decode.f (y438.drop ((wrap64 (256 * t448)) : Int).toNat) a1_0).bind fun bt455 => ((undercroftref03_Same.f kj20 t441 t442 t445 a0_0 l0_1 l0_2).bind fun t465 => (if t465 = true then (if bt455.2.2.2.2 = true then (if (wrap64 (256 * bt455.2.2.2.1)) = (t428.length : Int) then ((undercroftref03_Same.f kj20 bt455.1 bt455.2.1 bt455.2.2.1 a1_0 l1_1 l1_2).bind fun t466 => (if t466 = true then ((undercroftref03_Same.f kj20 a0_0 l0_1 l0_2 a1_0 l1_1 l1_2).bind fun t467 => (some (((strOfNums t424).toList == (strOfNums t428).toList) == t467))) else (some false))) else (some false)) else (some false)) else (some false)))) else (none)) else (none)) = some r := by rw [if_neg (show ¬ (false = true) by decide)] at H; exact H
            clear H
            have H := H1
            clear H1
            obtain ⟨ji40, hji40⟩ : ∃ j_ : Int, (wrap64 (256 * t448)) = j_ := ⟨_, rfl⟩
            replace H : (if 0 ≤ (ji40) then (if (ji40) ≤ (y438.length : Int) then ((record_Decode.f (y438.drop ((ji40) : Int).toNat) a1_0).bind fun bt455 => ((undercroftref03_Same.f kj20 t441 t442 t445 a0_0 l0_1 l0_2).bind fun t465 => (if t465 = true then (if bt455.2.2.2.2 = true then (if (wrap64 (256 * bt455.2.2.2.1)) = (t428.length : Int) then ((undercroftref03_Same.f kj20 bt455.1 bt455.2.1 bt455.2.2.1 a1_0 l1_1 l1_2).bind fun t466 => (if t466 = true then ((undercroftref03_Same.f kj20 a0_0 l0_1 l0_2 a1_0 l1_1 l1_2).bind fun t467 => (some (((strOfNums t424).toList == (strOfNums t428).toList) == t467))) else (some false))) else (some false)) else (some false)) else (some false)))) else (none)) else (none)) = some r := by first | (rw [hji40] at H; exact H) | (simp only [hji40] at H ⊢; exact H)
            have hji40w : (IntKind.i64.wrap (256 * t448)) = ji40 := (i64_w _).trans hji40
            by_cases c41 : 0 ≤ (ji40)
            rotate_left
            · rw [if_neg c41] at H
              exact absurd H (by simp)
            rw [if_pos c41] at H
            have c41b0 := eq_true c41
            have c41b1 : decide (0 ≤ (ji40)) = true := decide_eq_true c41
            clear c41
            by_cases c42 : (ji40) ≤ (y438.length : Int)
            rotate_left
            · rw [if_neg c42] at H
              exact absurd H (by simp)
            rw [if_pos c42] at H
            have c42b0 := eq_true c42
            have c42b1 : decide ((ji40) ≤ (y438.length : Int)) = true := decide_eq_true c42
            clear c42
            obtain ⟨y451, hy451⟩ : ∃ y_ : List Int, y_ = (y438.drop ((ji40) : Int).toNat) := ⟨_, rfl⟩
            replace H : ((record_Decode.f y451 a1_0).bind fun bt455 => ((undercroftref03_Same.f kj20 t441 t442 t445 a0_0 l0_1 l0_2).bind fun t465 => (if t465 = true then (if bt455.2.2.2.2 = true then (if (wrap64 (256 * bt455.2.2.2.1)) = (t428.length : Int) then ((undercroftref03_Same.f kj20 bt455.1 bt455.2.1 bt455.2.2.1 a1_0 l1_1 l1_2).bind fun t466 => (if t466 = true then ((undercroftref03_Same.f kj20 a0_0 l0_1 l0_2 a1_0 l1_1 l1_2).bind fun t467 => (some (((strOfNums t424).toList == (strOfNums t428).toList) == t467))) else (some false))) else (some false)) else (some false)) else (some false)))) = some r := by first | (rw [hy451]; with_reducible exact H) | (have H2_ := (Option.bind_some _ _).symm.trans H; rw [hy451]; with_reducible exact H2_) | (have H2_ := (Option.bind_some _ _).symm.trans H; with_reducible exact H2_) | with_reducible exact H | (rw [hy451]; exact H) | exact H
            have Ny451 := Aside0.mk hy451
            clear hy451
            replace H := Option.bind_eq_some_iff.mp H
            obtain ⟨⟨t455, t456, t459, t462, t463⟩, A430, H⟩ := H
            replace H : ((undercroftref03_Same.f kj20 t441 t442 t445 a0_0 l0_1 l0_2).bind fun t465 => (if t465 = true then (if t463 = true then (if (wrap64 (256 * t462)) = (t428.length : Int) then ((undercroftref03_Same.f kj20 t455 t456 t459 a1_0 l1_1 l1_2).bind fun t466 => (if t466 = true then ((undercroftref03_Same.f kj20 a0_0 l0_1 l0_2 a1_0 l1_1 l1_2).bind fun t467 => (some (((strOfNums t424).toList == (strOfNums t428).toList) == t467))) else (some false))) else (some false)) else (some false)) else (some false))) = some r := H
            have A43 := Aside0.mk A430
            clear A430
            replace H := Option.bind_eq_some_iff.mp H
            obtain ⟨t465, A440, H⟩ := H
            replace H : (if t465 = true then (if t463 = true then (if (wrap64 (256 * t462)) = (t428.length : Int) then ((undercroftref03_Same.f kj20 t455 t456 t459 a1_0 l1_1 l1_2).bind fun t466 => (if t466 = true then ((undercroftref03_Same.f kj20 a0_0 l0_1 l0_2 a1_0 l1_1 l1_2).bind fun t467 => (some (((strOfNums t424).toList == (strOfNums t428).toList) == t467))) else (some false))) else (some false)) else (some false)) else (some false)) = some r := H
            have A44 := Aside0.mk A440
            clear A440
            by_cases c45 : t465 = true
            rotate_left
            · replace c45 := Bool.eq_false_iff.mpr c45
              subst c45
              have H1 : (some false) = some r := by rw [if_neg (show ¬ (false = true) by decide)] at H; exact H
              clear H
              have H := H1
              clear H1
              exact absurd (Option.some.inj H) (by rw [hT]; decide)
            subst c45
            have H1 : (if t463 = true then (if (wrap64 (256 * t462)) = (t428.length : Int) then ((undercroftref03_Same.f kj20 t455 t456 t459 a1_0 l1_1 l1_2).bind fun t466 => (if t466 = true then ((undercroftref03_Same.f kj20 a0_0 l0_1 l0_2 a1_0 l1_1 l1_2).bind fun t467 => (some (((strOfNums t424).toList == (strOfNums t428).toList) == t467))) else (some false))) else (some false)) else (some false)) = some r := by rw [if_pos rfl] at H; exact H
            clear H
            have H := H1
            clear H1
            by_cases c46 : t463 = true
            rotate_left
            · replace c46 := Bool.eq_false_iff.mpr c46
              subst c46
              have H1 : (some false) = some r := by rw [if_neg (show ¬ (false = true) by decide)] at H; exact H
              clear H
              have H := H1
              clear H1
              exact absurd (Option.some.inj H) (by rw [hT]; decide)
            subst c46
            have H1 : (if (wrap64 (256 * t462)) = (t428.length : Int) then ((undercroftref03_Same.f kj20 t455 t456 t459 a1_0 l1_1 l1_2).bind fun t466 => (if t466 = true then ((undercroftref03_Same.f kj20 a0_0 l0_1 l0_2 a1_0 l1_1 l1_2).bind fun t467 => (some (((strOfNums t424).toList == (strOfNums t428).toList) == t467))) else (some false))) else (some false)) = some r := by rw [if_pos rfl] at H; exact H
            clear H
            have H := H1
            clear H1
            by_cases c47 : (wrap64 (256 * t462)) = (t428.length : Int)
            rotate_left
            · rw [if_neg c47] at H
              have c47b0 : ((wrap64 (256 * t462)) == (t428.length : Int)) = false := beq_eq_false_iff_ne.mpr c47
              have c47b1 : ((wrap64 (256 * t462)) != (t428.length : Int)) = true := bne_iff_ne.mpr c47
              exact absurd (Option.some.inj H) (by rw [hT]; decide)
            rw [if_pos c47] at H
            have c47b0 : ((wrap64 (256 * t462)) == (t428.length : Int)) = true := beq_iff_eq.mpr c47
            have c47b1 : ((wrap64 (256 * t462)) != (t428.length : Int)) = false := bne_eq_false_iff_eq.mpr c47
            clear c47
            replace H := Option.bind_eq_some_iff.mp H
            obtain ⟨t466, A480, H⟩ := H
            replace H : (if t466 = true then ((undercroftref03_Same.f kj20 a0_0 l0_1 l0_2 a1_0 l1_1 l1_2).bind fun t467 => (some (((strOfNums t424).toList == (strOfNums t428).toList) == t467))) else (some false)) = some r := H
            have A48 := Aside0.mk A480
            clear A480
            by_cases c49 : t466 = true
            rotate_left
            · replace c49 := Bool.eq_false_iff.mpr c49
              subst c49
              have H1 : (some false) = some r := by rw [if_neg (show ¬ (false = true) by decide)] at H; exact H
              clear H
              have H := H1
              clear H1
              exact absurd (Option.some.inj H) (by rw [hT]; decide)
            subst c49
            have H1 : ((undercroftref03_Same.f kj20 a0_0 l0_1 l0_2 a1_0 l1_1 l1_2).bind fun t467 => (some (((strOfNums t424).toList == (strOfNums t428).toList) == t467))) = some r := by rw [if_pos rfl] at H; exact H
            clear H
            have H := H1
            clear H1
            replace H := Option.bind_eq_some_iff.mp H
            obtain ⟨t467, A500, H⟩ := H
            replace H : (some (((strOfNums t424).toList == (strOfNums t428).toList) == t467)) = some r := H
            have A50 := Aside0.mk A500
            clear A500
            obtain rfl := Option.some.inj H
            try go_wp2
            have n0_ := Aside0.mk (Kd.R_drew HO_5.out)
            have n1_ := Aside0.mk (Kd.R_drew HO_7.out)
            have n2_ := Aside0.mk (Kd.R_drew HO_9.out)
            have n3_ := Aside0.mk (Kd.S_drew HO_451001.out)
            have n4_ := Aside0.mk (Kd.R_drew HO_451002.out)
            have n5_ := Aside0.mk (blk_drew BK421.out)
            have n6_ := Aside0.mk (blk_drew BK422.out)
            have n7_ := Aside0.mk (blk_drew BK450.out)
            have n8_ := Aside0.mk (below_drew1 HB.out)
            clear HO_5
            clear HO_7
            clear HO_9
            clear HO_451001
            clear HO_451002
            clear BK421
            clear BK422
            clear BK450
            clear HB
            have HO_5 := n0_
            have HO_7 := n1_
            have HO_9 := n2_
            have HO_451001 := n3_
            have HO_451002 := n4_
            have BK421 := n5_
            have BK422 := n6_
            have BK450 := n7_
            have HB := n8_
            clear n0_ n1_ n2_ n3_ n4_ n5_ n6_ n7_ n8_
            have q52 : ((ji40) : Int) ≤ ((y438.length : Int) : Int) := of_decide_eq_true (by first | (with_reducible assumption) | assumption)
            obtain ⟨i052, hi052, _, hsz52, _⟩ := info_parts info5
            have hroom52 : y438.length ≤ co30 := (Kd.R_reads' HO_9.out).2.1
            have hC52 : Kd.C (Kd.int .u8) _ Ao30 y438.length y438 := (Kd.R_reads' HO_9.out).2.2
            have q052 : (0 : Int) ≤ ((ji40) : Int) := of_decide_eq_true (by first | (with_reducible assumption) | assumption)
            have hcut52 := cut_from (P := Try.prog) 29 5 .i64 Try.underlying29 hi052 1 hsz52 Ao30 y438.length co30 (ji40) q052 q52
            have hr52 := Kd.C_drop (m := ((ji40) : Int).toNat) (c := co30) hC52 (by omega) hroom52
            obtain ⟨A52, hA52⟩ : ∃ A1, A1 = (if co30 = ((ji40) : Int).toNat then Ao30 else (Ao30 : Option Addr).map (·.add (((ji40) : Int).toNat * 1))) := ⟨_, rfl⟩
            obtain ⟨c52, hc52⟩ : ∃ c1, c1 = co30 - ((ji40) : Int).toNat := ⟨_, rfl⟩
            have hy52 : y451.length = y438.length - ((ji40) : Int).toNat := (by rw [Ny451.out, List.length_drop] <;> omega)
            rw [show (y438).drop ((ji40) : Int).toNat = y451 from Ny451.out.symm] at hr52
            replace hr52 : Kd.C (Kd.int .u8) _ A52 y451.length y451 := (by rw [hA52]; exact hr52)
            rw [← hy52, ← hA52, ← hc52] at hcut52
            have HR454 := Aside0.mk hr52
            have HC454 := Aside0.mk (show y451.length ≤ c52 from by rw [hy52, hc52]; exact Nat.sub_le_sub_right hroom52 _)
            clear hr52 hC52 hroom52 hi052 hsz52 hc52
            have KY52 := Aside0.mk hy52
            have KA52 := Aside0.mk hA52
            clear hy52 hA52
            have KL52 := Aside0.mk (show ((ji40) : Int).toNat ≤ y438.length from by omega)
            replace q52 := eq_true q52
            refine start_ (n := 15) (S := fun w' => w'.cell? ⟨gb422, 0, none⟩ = some (.int .u64 a1_0) ∧ w'.cell? ⟨gb422, 1, none⟩ = some (.slice A1_1 l1_1.length c1_1) ∧ w'.cell? ⟨gb422, 2, none⟩ = some (.slice A1_2 l1_2.length c1_2)) (ds := []) #[false, false, false, false, false, false, false, false, false, false, false, false, false, false, false] (by kernel_rfl) rfl rfl ⟨(blk_cell BK422.out 0).trans rfl, (blk_cell BK422.out 1).trans rfl, (blk_cell BK422.out 2).trans rfl⟩ (fun hHeld => ?_); refine with_tabW undercroftlaw03_RecordTwo.tab11 undercroftlaw03_RecordTwo.bits11 (fun HT_ HW_ => ?_)
            generalize wc.drew = w51 at HO_5 HO_7 HO_9 HO_451001 HO_451002 BK421 BK422 BK450 HB HR454 hHeld ⊢
            refine pure_ (i := 0) (N := some 57) (v := ?_) (a' := ?_) #[true, false, false, false, false, false, false, false, false, false, false, false, false, false, false] rfl rfl (any_of HT_.out (by kernel_rfl)) (fun _ _ _ h => h) (Or.inl ⟨by rfl, ?_⟩) ?_ ?_
            rotate_left
            · intro w'
              go_simp
              with_reducible rfl
            rotate_left
            · simp only [Act.put, List.setIfInBounds_toArray, List.set_cons_zero, List.set_cons_succ, i64_w, i32_w]
              rfl
            refine pure_ (i := 1) (N := some 58) (v := ?_) (a' := ?_) #[true, true, false, false, false, false, false, false, false, false, false, false, false, false, false] rfl rfl (any_of HT_.out (by kernel_rfl)) (fun _ _ _ h => h) (Or.inl ⟨by rfl, ?_⟩) ?_ ?_
            rotate_left
            · intro w'
              go_simp
              with_reducible rfl
            rotate_left
            · simp only [Act.put, List.setIfInBounds_toArray, List.set_cons_zero, List.set_cons_succ, i64_w, i32_w]
              rfl
            refine pure_ (i := 2) (N := some 59) (v := ?_) (a' := ?_) #[true, true, true, false, false, false, false, false, false, false, false, false, false, false, false] rfl rfl (any_of HT_.out (by kernel_rfl)) (fun _ _ _ h => h) (Or.inl ⟨by rfl, ?_⟩) ?_ ?_
            rotate_left
            · intro w'
              go_simp
              with_reducible rfl
            rotate_left
            · simp only [Act.put, List.setIfInBounds_toArray, List.set_cons_zero, List.set_cons_succ, i64_w, i32_w]
              rfl
            refine pure_ (i := 3) (N := some 60) (v := ?_) (a' := ?_) #[true, true, true, true, false, false, false, false, false, false, false, false, false, false, false] rfl rfl (any_of HT_.out (by kernel_rfl)) (fun _ _ _ h => h) (Or.inl ⟨by rfl, ?_⟩) ?_ ?_
            rotate_left
            · intro w'
              go_simp
              with_reducible rfl
            rotate_left
            · simp only [Act.put, List.setIfInBounds_toArray, List.set_cons_zero, List.set_cons_succ, i64_w, i32_w]
              rfl
            refine pure_ (i := 4) (N := some 61) (v := ?_) (a' := ?_) #[true, true, true, true, true, false, false, false, false, false, false, false, false, false, false] rfl rfl (any_of HT_.out (by kernel_rfl)) (fun _ _ _ h => h) (Or.inl ⟨by rfl, ?_⟩) ?_ ?_
            rotate_left
            · intro w'
              go_simp
              with_reducible rfl
            rotate_left
            · simp only [Act.put, List.setIfInBounds_toArray, List.set_cons_zero, List.set_cons_succ, i64_w, i32_w]
              rfl
            refine take_ (i := 5) (N := some 62) (v := ?_) (a' := ?_) #[true, true, true, true, true, true, false, false, false, false, false, false, false, false, false] rfl rfl (take_ofW HT_.out HW_.out (by kernel_rfl)) (fun _ _ _ h => h) (Or.inl ⟨by rfl, ?_⟩) hHeld ?_ ?_
            rotate_left
            · rintro w' ⟨s0, s1, s2⟩
              go_simp
              with_reducible rfl
            rotate_left
            · simp only [Act.put, List.setIfInBounds_toArray, List.set_cons_zero, List.set_cons_succ, i64_w, i32_w]
              rfl
            refine join_ (σ := Value × Value × Nat) 3 #[true, true, true, true, true, true, true, true, true, true, true, true, false, false, false] (fun s_ => [(63, .tuple #[.agg #[.int .u64 t455, s_.1, s_.2.1], .int .i64 t462, .bool true]), (13, .pointer (some ⟨s_.2.2, 0, none⟩)), (56, .tuple #[.agg #[.int .u64 t455, s_.1, s_.2.1], .int .i64 t462, .bool true]), (64, .agg #[.int .u64 t455, s_.1, s_.2.1]), (65, .int .i64 t462), (66, .bool true)]) (fun s_ w' => (w'.cell? ⟨gb422, 0, none⟩ = some (.int .u64 a1_0) ∧ w'.cell? ⟨gb422, 1, none⟩ = some (.slice A1_1 l1_1.length c1_1) ∧ w'.cell? ⟨gb422, 2, none⟩ = some (.slice A1_2 l1_2.length c1_2)) ∧ (Kd.S k43 43 w' w.heap.size (fun k_ => some k_ ≠ (.slice Ao36 t442.length co36 : Value).ownBlock ∧ some k_ ≠ (.slice Ao25 t424.length co25 : Value).ownBlock ∧ some k_ ≠ (.slice Ao27 t428.length co27 : Value).ownBlock ∧ some k_ ≠ (.slice Ao30 y438.length co30 : Value).ownBlock) s_.1 t456) ∧ (Kd.R (Kd.int .i64) 3 w' w.heap.size (fun k_ => some k_ ≠ (.slice Ao37 t445.length co37 : Value).ownBlock) s_.2.1 t459) ∧ (Kd.S k43 43 w' w.heap.size (fun k_ => some k_ ≠ (s_.1 : Value).ownBlock ∧ some k_ ≠ (.slice Ao25 t424.length co25 : Value).ownBlock ∧ some k_ ≠ (.slice Ao27 t428.length co27 : Value).ownBlock ∧ some k_ ≠ (.slice Ao30 y438.length co30 : Value).ownBlock) (.slice Ao36 t442.length co36) t442) ∧ (Kd.R (Kd.int .i64) 3 w' w.heap.size (fun k_ => some k_ ≠ (s_.2.1 : Value).ownBlock) (.slice Ao37 t445.length co37) t445) ∧ (Kd.R (Kd.int .u8) 5 w' w.heap.size (fun k_ => some k_ ≠ (.slice Ao27 t428.length co27 : Value).ownBlock ∧ some k_ ≠ (.slice Ao30 y438.length co30 : Value).ownBlock) (.slice Ao25 t424.length co25) t424) ∧ (Kd.R (Kd.int .u8) 5 w' w.heap.size (fun k_ => some k_ ≠ (.slice Ao25 t424.length co25 : Value).ownBlock ∧ some k_ ≠ (.slice Ao30 y438.length co30 : Value).ownBlock) (.slice Ao27 t428.length co27) t428) ∧ (Kd.R (Kd.int .u8) 5 w' w.heap.size (fun k_ => some k_ ≠ (.slice Ao25 t424.length co25 : Value).ownBlock ∧ some k_ ≠ (.slice Ao27 t428.length co27 : Value).ownBlock) (.slice Ao30 y438.length co30) y438) ∧ (w'.heap[gb421]? = some (.cells #[.int .u64 a0_0, .slice A0_1 l0_1.length c0_1, .slice A0_2 l0_2.length c0_2] 26 (0, 0))) ∧ (w'.heap[gb422]? = some (.cells #[.int .u64 a1_0, .slice A1_1 l1_1.length c1_1, .slice A1_2 l1_2.length c1_2] 26 (0, 0))) ∧ (w'.heap[gb450]? = some (.cells #[.int .u64 t441, .slice Ao36 t442.length co36, .slice Ao37 t445.length co37] 26 (0, 0))) ∧ (w'.heap[s_.2.2]? = some (.cells #[.int .u64 0, .slice none 0 0, .slice none 0 0] 26 (0, 0))) ∧ (w.heap.size ≤ s_.2.2) ∧ (w.heap.size ≤ s_.2.2) ∧ (gb421 ≠ s_.2.2) ∧ (s_.2.2 ≠ gb421) ∧ (gb422 ≠ s_.2.2) ∧ (s_.2.2 ≠ gb422) ∧ (gb450 ≠ s_.2.2) ∧ (s_.2.2 ≠ gb450) ∧ (Below w.heap.size w w')) ?_ ?_
            rotate_left
            · intro hCont
              refine two_ (i := 6) (j := 11) (Ni := some 63) (Nj := some 13) #[true, true, true, true, true, true, true, false, false, false, false, false, false, false, false] #[true, true, true, true, true, true, false, false, false, false, false, true, false, false, false] rfl rfl rfl rfl (two_of HT_.out (by kernel_rfl)) (by decide) (by decide) (fun K hK => ?_) (fun K hK => ?_)
              · skip
                refine goes_ Try.func16 (by kernel_rfl) rfl #[.slice A52 y451.length c52, .int .u64 a1_0] (by rfl) rfl rfl (by (try simp only [List.map_toArray, List.map_cons, List.map_nil]); first | done | rfl | (simp only [List.length_drop, List.length_take]; rfl)) ?_
                with_reducible refine (record_Decode.calls _ _ y451 a1_0 t455 t456 t459 t462 true _ ?side1 ?side2 A43.out).mono ?_
                (case side1 => repeat (first | exact (by repeat (first | (with_reducible exact HR454.out) | (with_reducible refine Kd.C_alloc ?_ _) | (with_reducible refine Kd.C_drewN ?_ _) | (with_reducible refine Kd.C_drew ?_) | exact HR454.out)) | (with_reducible refine Kd.C_alloc ?_ _) | (with_reducible refine Kd.C_drewN ?_ _) | (with_reducible refine Kd.C_drew ?_)))
                (case side2 => exact HC454.out)
                rintro e w53 ⟨v457, v460, rfl, ho0, ho1, hb⟩
                refine ⟨_, rfl, ?_⟩
                have n0_ := Aside0.mk (Kd.R_below (by (with_reducible repeat (first | apply Kd.R_alloc | apply Kd.R_drewN | apply Kd.R_drew)); exact HO_5.out) hb)
                have n1_ := Aside0.mk (Kd.R_below (by (with_reducible repeat (first | apply Kd.R_alloc | apply Kd.R_drewN | apply Kd.R_drew)); exact HO_7.out) hb)
                have n2_ := Aside0.mk (Kd.R_below (by (with_reducible repeat (first | apply Kd.R_alloc | apply Kd.R_drewN | apply Kd.R_drew)); exact HO_9.out) hb)
                have n3_ := Aside0.mk (Kd.S_elder' (by (with_reducible repeat (first | apply Kd.S_alloc | apply Kd.S_drewN | apply Kd.S_drew)); exact HO_451001.out) (Kd.S_base ho0) hb)
                have n4_ := Aside0.mk (Kd.R_elder' (by (with_reducible repeat (first | apply Kd.R_alloc | apply Kd.R_drewN | apply Kd.R_drew)); exact HO_451002.out) (Kd.R_base ho1) hb)
                have n5_ := Aside0.mk (Kd.S_lower (Kd.S_new' (Kd.S_new' (Kd.S_new' (Kd.S_new' ho0 (Kd.R_lt (by (with_reducible repeat (first | apply Kd.R_alloc | apply Kd.R_drewN | apply Kd.R_drew)); exact HO_5.out))) (Kd.R_lt (by (with_reducible repeat (first | apply Kd.R_alloc | apply Kd.R_drewN | apply Kd.R_drew)); exact HO_7.out))) (Kd.R_lt (by (with_reducible repeat (first | apply Kd.R_alloc | apply Kd.R_drewN | apply Kd.R_drew)); exact HO_9.out))) (Kd.S_lt (by (with_reducible repeat (first | apply Kd.S_alloc | apply Kd.S_drewN | apply Kd.S_drew)); exact HO_451001.out))) (below_size (by repeat (first | (with_reducible first | exact HB.out | apply below_alloc | apply pw_below_drewN | apply below_drew1 | refine below_set ?_ GE421.out | refine below_set ?_ GE422.out | refine below_set ?_ GE450.out) | exact HB.out))))
                have n6_ := Aside0.mk (Kd.R_lower (Kd.R_new' ho1 (Kd.R_lt (by (with_reducible repeat (first | apply Kd.R_alloc | apply Kd.R_drewN | apply Kd.R_drew)); exact HO_451002.out))) (below_size (by repeat (first | (with_reducible first | exact HB.out | apply below_alloc | apply pw_below_drewN | apply below_drew1 | refine below_set ?_ GE421.out | refine below_set ?_ GE422.out | refine below_set ?_ GE450.out) | exact HB.out))))
                have n7_ := Aside0.mk (blk_below (g := gb421) (o := .cells #[.int .u64 a0_0, .slice A0_1 l0_1.length c0_1, .slice A0_2 l0_2.length c0_2] 26 (0, 0)) (by (with_reducible repeat (first | refine blk_drewN ?_ _ | refine blk_drew ?_ | refine blk_alloc ?_ _)); exact BK421.out) hb)
                have n8_ := Aside0.mk (blk_below (g := gb422) (o := .cells #[.int .u64 a1_0, .slice A1_1 l1_1.length c1_1, .slice A1_2 l1_2.length c1_2] 26 (0, 0)) (by (with_reducible repeat (first | refine blk_drewN ?_ _ | refine blk_drew ?_ | refine blk_alloc ?_ _)); exact BK422.out) hb)
                have n9_ := Aside0.mk (blk_below (g := gb450) (o := .cells #[.int .u64 t441, .slice Ao36 t442.length co36, .slice Ao37 t445.length co37] 26 (0, 0)) (by (with_reducible repeat (first | refine blk_drewN ?_ _ | refine blk_drew ?_ | refine blk_alloc ?_ _)); exact BK450.out) hb)
                have n10_ := Aside0.mk (Kd.C_below (by repeat (first | (with_reducible exact HR454.out) | (with_reducible refine Kd.C_alloc ?_ _) | (with_reducible refine Kd.C_drewN ?_ _) | (with_reducible refine Kd.C_drew ?_) | exact HR454.out)) hb)
                have n11_ := Aside0.mk (below_step (by repeat (first | (with_reducible first | exact HB.out | apply below_alloc | apply pw_below_drewN | apply below_drew1 | refine below_set ?_ GE421.out | refine below_set ?_ GE422.out | refine below_set ?_ GE450.out) | exact HB.out)) hb)
                clear HO_5
                clear HO_7
                clear HO_9
                clear HO_451001
                clear HO_451002
                clear BK421
                clear BK422
                clear BK450
                clear HR454
                clear HB
                have HO_5 := n0_
                have HO_7 := n1_
                have HO_9 := n2_
                have HO_451001 := n3_
                have HO_451002 := n4_
                have HO458 := n5_
                have HO461 := n6_
                have BK421 := n7_
                have BK422 := n8_
                have BK450 := n9_
                have HR454 := n10_
                have HB := n11_
                clear n0_ n1_ n2_ n3_ n4_ n5_ n6_ n7_ n8_ n9_ n10_ n11_
                (try clear hb)
                (try clear hb2)
                (try clear hk)
                (try clear hi)
                (try clear ho0)
                (try clear ho1)
                refine hK.out _ _ ⟨(blk_cell BK422.out 0).trans rfl, (blk_cell BK422.out 1).trans rfl, (blk_cell BK422.out 2).trans rfl⟩ (fun hHeld => ?_)
                clear hK K
                refine norm_ (a' := ?_) ?_ ?_
                rotate_left
                · show Act.put _ (some 63) _ = _
                  simp only [Act.put, List.setIfInBounds_toArray, List.set_cons_zero, List.set_cons_succ, i64_w, i32_w]
                  rfl
                refine pure_ (i := 7) (N := some 56) (v := ?_) (a' := ?_) #[true, true, true, true, true, true, true, true, false, false, false, false, false, false, false] rfl rfl (any_of HT_.out (by kernel_rfl)) (fun _ _ _ h => h) (Or.inl ⟨by rfl, ?_⟩) ?_ ?_
                rotate_left
                · intro w'
                  go_simp
                  with_reducible rfl
                rotate_left
                · simp only [Act.put, List.setIfInBounds_toArray, List.set_cons_zero, List.set_cons_succ, i64_w, i32_w]
                  rfl
                refine pure_ (i := 8) (N := some 64) (v := ?_) (a' := ?_) #[true, true, true, true, true, true, true, true, true, false, false, false, false, false, false] rfl rfl (any_of HT_.out (by kernel_rfl)) (fun _ _ _ h => h) (Or.inl ⟨by rfl, ?_⟩) ?_ ?_
                rotate_left
                · intro w'
                  go_simp
                  with_reducible rfl
                rotate_left
                · simp only [Act.put, List.setIfInBounds_toArray, List.set_cons_zero, List.set_cons_succ, i64_w, i32_w]
                  rfl
                refine pure_ (i := 9) (N := some 65) (v := ?_) (a' := ?_) #[true, true, true, true, true, true, true, true, true, true, false, false, false, false, false] rfl rfl (any_of HT_.out (by kernel_rfl)) (fun _ _ _ h => h) (Or.inl ⟨by rfl, ?_⟩) ?_ ?_
                rotate_left
                · intro w'
                  go_simp
                  with_reducible rfl
                rotate_left
                · simp only [Act.put, List.setIfInBounds_toArray, List.set_cons_zero, List.set_cons_succ, i64_w, i32_w]
                  rfl
                refine pure_ (i := 10) (N := some 66) (v := ?_) (a' := ?_) #[true, true, true, true, true, true, true, true, true, true, true, false, false, false, false] rfl rfl (any_of HT_.out (by kernel_rfl)) (fun _ _ _ h => h) (Or.inl ⟨by rfl, ?_⟩) ?_ ?_
                rotate_left
                · intro w'
                  go_simp
                  with_reducible rfl
                rotate_left
                · simp only [Act.put, List.setIfInBounds_toArray, List.set_cons_zero, List.set_cons_succ, i64_w, i32_w]
                  rfl
                refine one_ (i := 11) (N := some 13) #[true, true, true, true, true, true, true, true, true, true, true, true, false, false, false] rfl rfl (one_of HT_.out (by kernel_rfl)) (by decide) (fun K hK => ?_)
                refine box_step ?hg (N := 13) ?hd (cs := #[.int .u64 0, .slice none 0 0, .slice none 0 0]) (t := 26) ?hr ?_; (case hd => rfl); (case hg => rfl); (case hr => go_simp; first | done | rfl)
                intro gb464 hg w54 hbox hb
                have n0_ := Aside0.mk (Kd.R_below (by (with_reducible repeat (first | apply Kd.R_alloc | apply Kd.R_drewN | apply Kd.R_drew)); exact HO_5.out) hb)
                have n1_ := Aside0.mk (Kd.R_below (by (with_reducible repeat (first | apply Kd.R_alloc | apply Kd.R_drewN | apply Kd.R_drew)); exact HO_7.out) hb)
                have n2_ := Aside0.mk (Kd.R_below (by (with_reducible repeat (first | apply Kd.R_alloc | apply Kd.R_drewN | apply Kd.R_drew)); exact HO_9.out) hb)
                have n3_ := Aside0.mk (Kd.S_below (by (with_reducible repeat (first | apply Kd.S_alloc | apply Kd.S_drewN | apply Kd.S_drew)); exact HO_451001.out) hb)
                have n4_ := Aside0.mk (Kd.R_below (by (with_reducible repeat (first | apply Kd.R_alloc | apply Kd.R_drewN | apply Kd.R_drew)); exact HO_451002.out) hb)
                have n5_ := Aside0.mk (Kd.S_below (by (with_reducible repeat (first | apply Kd.S_alloc | apply Kd.S_drewN | apply Kd.S_drew)); exact HO458.out) hb)
                have n6_ := Aside0.mk (Kd.R_below (by (with_reducible repeat (first | apply Kd.R_alloc | apply Kd.R_drewN | apply Kd.R_drew)); exact HO461.out) hb)
                have n7_ := Aside0.mk (blk_below (g := gb421) (o := .cells #[.int .u64 a0_0, .slice A0_1 l0_1.length c0_1, .slice A0_2 l0_2.length c0_2] 26 (0, 0)) (by (with_reducible repeat (first | refine blk_drewN ?_ _ | refine blk_drew ?_ | refine blk_alloc ?_ _)); exact BK421.out) hb)
                have n8_ := Aside0.mk (blk_below (g := gb422) (o := .cells #[.int .u64 a1_0, .slice A1_1 l1_1.length c1_1, .slice A1_2 l1_2.length c1_2] 26 (0, 0)) (by (with_reducible repeat (first | refine blk_drewN ?_ _ | refine blk_drew ?_ | refine blk_alloc ?_ _)); exact BK422.out) hb)
                have n9_ := Aside0.mk (blk_below (g := gb450) (o := .cells #[.int .u64 t441, .slice Ao36 t442.length co36, .slice Ao37 t445.length co37] 26 (0, 0)) (by (with_reducible repeat (first | refine blk_drewN ?_ _ | refine blk_drew ?_ | refine blk_alloc ?_ _)); exact BK450.out) hb)
                have n10_ := Aside0.mk (Kd.C_below (by repeat (first | (with_reducible exact HR454.out) | (with_reducible refine Kd.C_alloc ?_ _) | (with_reducible refine Kd.C_drewN ?_ _) | (with_reducible refine Kd.C_drew ?_) | exact HR454.out)) hb)
                have n11_ := Aside0.mk (below_step (by repeat (first | (with_reducible first | exact HB.out | apply below_alloc | apply pw_below_drewN | apply below_drew1 | refine below_set ?_ GE421.out | refine below_set ?_ GE422.out | refine below_set ?_ GE450.out) | exact HB.out)) hb)
                have n12_ := Aside0.mk (hbox)
                have n13_ := Aside0.mk ((by rw [hg]; exact (below_size (by repeat (first | (with_reducible first | exact HB.out | apply below_alloc | apply pw_below_drewN | apply below_drew1 | refine below_set ?_ GE421.out | refine below_set ?_ GE422.out | refine below_set ?_ GE450.out) | exact HB.out))) : w.heap.size ≤ gb464))
                have n14_ := Aside0.mk ((by rw [hg]; exact (below_size (by repeat (first | (with_reducible first | exact HB.out | apply below_alloc | apply pw_below_drewN | apply below_drew1 | refine below_set ?_ GE421.out | refine below_set ?_ GE422.out | refine below_set ?_ GE450.out) | exact HB.out))) : w.heap.size ≤ gb464))
                have n15_ := Aside0.mk ((by rw [hg]; exact Nat.ne_of_lt (blk_lt (g := gb421) (o := .cells #[.int .u64 a0_0, .slice A0_1 l0_1.length c0_1, .slice A0_2 l0_2.length c0_2] 26 (0, 0)) (by (with_reducible repeat (first | refine blk_drewN ?_ _ | refine blk_drew ?_ | refine blk_alloc ?_ _)); exact BK421.out)) : gb421 ≠ gb464))
                have n16_ := Aside0.mk ((by rw [hg]; exact Nat.ne_of_gt (blk_lt (g := gb421) (o := .cells #[.int .u64 a0_0, .slice A0_1 l0_1.length c0_1, .slice A0_2 l0_2.length c0_2] 26 (0, 0)) (by (with_reducible repeat (first | refine blk_drewN ?_ _ | refine blk_drew ?_ | refine blk_alloc ?_ _)); exact BK421.out)) : gb464 ≠ gb421))
                have n17_ := Aside0.mk ((by rw [hg]; exact Nat.ne_of_lt (blk_lt (g := gb422) (o := .cells #[.int .u64 a1_0, .slice A1_1 l1_1.length c1_1, .slice A1_2 l1_2.length c1_2] 26 (0, 0)) (by (with_reducible repeat (first | refine blk_drewN ?_ _ | refine blk_drew ?_ | refine blk_alloc ?_ _)); exact BK422.out)) : gb422 ≠ gb464))
                have n18_ := Aside0.mk ((by rw [hg]; exact Nat.ne_of_gt (blk_lt (g := gb422) (o := .cells #[.int .u64 a1_0, .slice A1_1 l1_1.length c1_1, .slice A1_2 l1_2.length c1_2] 26 (0, 0)) (by (with_reducible repeat (first | refine blk_drewN ?_ _ | refine blk_drew ?_ | refine blk_alloc ?_ _)); exact BK422.out)) : gb464 ≠ gb422))
                have n19_ := Aside0.mk ((by rw [hg]; exact Nat.ne_of_lt (blk_lt (g := gb450) (o := .cells #[.int .u64 t441, .slice Ao36 t442.length co36, .slice Ao37 t445.length co37] 26 (0, 0)) (by (with_reducible repeat (first | refine blk_drewN ?_ _ | refine blk_drew ?_ | refine blk_alloc ?_ _)); exact BK450.out)) : gb450 ≠ gb464))
                have n20_ := Aside0.mk ((by rw [hg]; exact Nat.ne_of_gt (blk_lt (g := gb450) (o := .cells #[.int .u64 t441, .slice Ao36 t442.length co36, .slice Ao37 t445.length co37] 26 (0, 0)) (by (with_reducible repeat (first | refine blk_drewN ?_ _ | refine blk_drew ?_ | refine blk_alloc ?_ _)); exact BK450.out)) : gb464 ≠ gb450))
                clear HO_5
                clear HO_7
                clear HO_9
                clear HO_451001
                clear HO_451002
                clear HO458
                clear HO461
                clear BK421
                clear BK422
                clear BK450
                clear HR454
                clear HB
                have HO_5 := n0_
                have HO_7 := n1_
                have HO_9 := n2_
                have HO_451001 := n3_
                have HO_451002 := n4_
                have HO458 := n5_
                have HO461 := n6_
                have BK421 := n7_
                have BK422 := n8_
                have BK450 := n9_
                have HR454 := n10_
                have HB := n11_
                have BK464 := n12_
                have GW464 := n13_
                have GE464 := n14_
                have NB421_464 := n15_
                have NB464_421 := n16_
                have NB422_464 := n17_
                have NB464_422 := n18_
                have NB450_464 := n19_
                have NB464_450 := n20_
                clear n0_ n1_ n2_ n3_ n4_ n5_ n6_ n7_ n8_ n9_ n10_ n11_ n12_ n13_ n14_ n15_ n16_ n17_ n18_ n19_ n20_
                clear hb hbox hg
                refine hK.out _ _ ⟨(blk_cell BK422.out 0).trans rfl, (blk_cell BK422.out 1).trans rfl, (blk_cell BK422.out 2).trans rfl⟩ (fun hHeld => ?_)
                clear hK K
                refine norm_ (a' := ?_) ?_ ?_
                rotate_left
                · show Act.put _ (some 13) _ = _
                  simp only [Act.put, List.setIfInBounds_toArray, List.set_cons_zero, List.set_cons_succ, i64_w, i32_w]
                  rfl
                exact norm_ (by simp only [putAll, Act.put, List.setIfInBounds_toArray, List.set_cons_zero, List.set_cons_succ]) (hCont (v457, v460, gb464) _ ⟨hHeld, (by (with_reducible repeat (first | apply Kd.S_alloc | apply Kd.S_drewN | apply Kd.S_drew)); exact Kd.S_mono HO458.out (fun _ hk => ⟨hk.2, ⟨hk.1.1.1.2, ⟨hk.1.1.2, hk.1.2⟩⟩⟩)), (by (with_reducible repeat (first | apply Kd.R_alloc | apply Kd.R_drewN | apply Kd.R_drew)); exact Kd.R_mono HO461.out (fun _ hk => hk.2)), (by (with_reducible repeat (first | apply Kd.S_alloc | apply Kd.S_drewN | apply Kd.S_drew)); exact Kd.S_mono HO_451001.out (fun _ hk => ⟨hk.2, ⟨hk.1.1, ⟨hk.1.2.1, hk.1.2.2⟩⟩⟩)), (by (with_reducible repeat (first | apply Kd.R_alloc | apply Kd.R_drewN | apply Kd.R_drew)); exact Kd.R_mono HO_451002.out (fun _ hk => hk.2)), (by (with_reducible repeat (first | apply Kd.R_alloc | apply Kd.R_drewN | apply Kd.R_drew)); exact HO_5.out), (by (with_reducible repeat (first | apply Kd.R_alloc | apply Kd.R_drewN | apply Kd.R_drew)); exact HO_7.out), (by (with_reducible repeat (first | apply Kd.R_alloc | apply Kd.R_drewN | apply Kd.R_drew)); exact HO_9.out), (by (with_reducible repeat (first | refine blk_drewN ?_ _ | refine blk_drew ?_ | refine blk_alloc ?_ _)); exact BK421.out), (by (with_reducible repeat (first | refine blk_drewN ?_ _ | refine blk_drew ?_ | refine blk_alloc ?_ _)); exact BK422.out), (by (with_reducible repeat (first | refine blk_drewN ?_ _ | refine blk_drew ?_ | refine blk_alloc ?_ _)); exact BK450.out), (by (with_reducible repeat (first | refine blk_drewN ?_ _ | refine blk_drew ?_ | refine blk_alloc ?_ _)); exact BK464.out), GW464.out, GE464.out, NB421_464.out, NB464_421.out, NB422_464.out, NB464_422.out, NB450_464.out, NB464_450.out, (by repeat (first | (with_reducible first | exact HB.out | apply below_alloc | apply pw_below_drewN | apply below_drew1 | refine below_set ?_ GE421.out | refine below_set ?_ GE422.out | refine below_set ?_ GE450.out | refine below_set ?_ GE464.out) | exact HB.out))⟩)
              · skip
                refine box_step ?hg (N := 13) ?hd (cs := #[.int .u64 0, .slice none 0 0, .slice none 0 0]) (t := 26) ?hr ?_; (case hd => rfl); (case hg => rfl); (case hr => go_simp; first | done | rfl)
                intro gb464 hg w53 hbox hb
                have n0_ := Aside0.mk (Kd.R_below (by (with_reducible repeat (first | apply Kd.R_alloc | apply Kd.R_drewN | apply Kd.R_drew)); exact HO_5.out) hb)
                have n1_ := Aside0.mk (Kd.R_below (by (with_reducible repeat (first | apply Kd.R_alloc | apply Kd.R_drewN | apply Kd.R_drew)); exact HO_7.out) hb)
                have n2_ := Aside0.mk (Kd.R_below (by (with_reducible repeat (first | apply Kd.R_alloc | apply Kd.R_drewN | apply Kd.R_drew)); exact HO_9.out) hb)
                have n3_ := Aside0.mk (Kd.S_below (by (with_reducible repeat (first | apply Kd.S_alloc | apply Kd.S_drewN | apply Kd.S_drew)); exact HO_451001.out) hb)
                have n4_ := Aside0.mk (Kd.R_below (by (with_reducible repeat (first | apply Kd.R_alloc | apply Kd.R_drewN | apply Kd.R_drew)); exact HO_451002.out) hb)
                have n5_ := Aside0.mk (blk_below (g := gb421) (o := .cells #[.int .u64 a0_0, .slice A0_1 l0_1.length c0_1, .slice A0_2 l0_2.length c0_2] 26 (0, 0)) (by (with_reducible repeat (first | refine blk_drewN ?_ _ | refine blk_drew ?_ | refine blk_alloc ?_ _)); exact BK421.out) hb)
                have n6_ := Aside0.mk (blk_below (g := gb422) (o := .cells #[.int .u64 a1_0, .slice A1_1 l1_1.length c1_1, .slice A1_2 l1_2.length c1_2] 26 (0, 0)) (by (with_reducible repeat (first | refine blk_drewN ?_ _ | refine blk_drew ?_ | refine blk_alloc ?_ _)); exact BK422.out) hb)
                have n7_ := Aside0.mk (blk_below (g := gb450) (o := .cells #[.int .u64 t441, .slice Ao36 t442.length co36, .slice Ao37 t445.length co37] 26 (0, 0)) (by (with_reducible repeat (first | refine blk_drewN ?_ _ | refine blk_drew ?_ | refine blk_alloc ?_ _)); exact BK450.out) hb)
                have n8_ := Aside0.mk (Kd.C_below (by repeat (first | (with_reducible exact HR454.out) | (with_reducible refine Kd.C_alloc ?_ _) | (with_reducible refine Kd.C_drewN ?_ _) | (with_reducible refine Kd.C_drew ?_) | exact HR454.out)) hb)
                have n9_ := Aside0.mk (below_step (by repeat (first | (with_reducible first | exact HB.out | apply below_alloc | apply pw_below_drewN | apply below_drew1 | refine below_set ?_ GE421.out | refine below_set ?_ GE422.out | refine below_set ?_ GE450.out) | exact HB.out)) hb)
                have n10_ := Aside0.mk (hbox)
                have n11_ := Aside0.mk ((by rw [hg]; exact (below_size (by repeat (first | (with_reducible first | exact HB.out | apply below_alloc | apply pw_below_drewN | apply below_drew1 | refine below_set ?_ GE421.out | refine below_set ?_ GE422.out | refine below_set ?_ GE450.out) | exact HB.out))) : w.heap.size ≤ gb464))
                have n12_ := Aside0.mk ((by rw [hg]; exact (below_size (by repeat (first | (with_reducible first | exact HB.out | apply below_alloc | apply pw_below_drewN | apply below_drew1 | refine below_set ?_ GE421.out | refine below_set ?_ GE422.out | refine below_set ?_ GE450.out) | exact HB.out))) : w.heap.size ≤ gb464))
                have n13_ := Aside0.mk ((by rw [hg]; exact Nat.ne_of_lt (blk_lt (g := gb421) (o := .cells #[.int .u64 a0_0, .slice A0_1 l0_1.length c0_1, .slice A0_2 l0_2.length c0_2] 26 (0, 0)) (by (with_reducible repeat (first | refine blk_drewN ?_ _ | refine blk_drew ?_ | refine blk_alloc ?_ _)); exact BK421.out)) : gb421 ≠ gb464))
                have n14_ := Aside0.mk ((by rw [hg]; exact Nat.ne_of_gt (blk_lt (g := gb421) (o := .cells #[.int .u64 a0_0, .slice A0_1 l0_1.length c0_1, .slice A0_2 l0_2.length c0_2] 26 (0, 0)) (by (with_reducible repeat (first | refine blk_drewN ?_ _ | refine blk_drew ?_ | refine blk_alloc ?_ _)); exact BK421.out)) : gb464 ≠ gb421))
                have n15_ := Aside0.mk ((by rw [hg]; exact Nat.ne_of_lt (blk_lt (g := gb422) (o := .cells #[.int .u64 a1_0, .slice A1_1 l1_1.length c1_1, .slice A1_2 l1_2.length c1_2] 26 (0, 0)) (by (with_reducible repeat (first | refine blk_drewN ?_ _ | refine blk_drew ?_ | refine blk_alloc ?_ _)); exact BK422.out)) : gb422 ≠ gb464))
                have n16_ := Aside0.mk ((by rw [hg]; exact Nat.ne_of_gt (blk_lt (g := gb422) (o := .cells #[.int .u64 a1_0, .slice A1_1 l1_1.length c1_1, .slice A1_2 l1_2.length c1_2] 26 (0, 0)) (by (with_reducible repeat (first | refine blk_drewN ?_ _ | refine blk_drew ?_ | refine blk_alloc ?_ _)); exact BK422.out)) : gb464 ≠ gb422))
                have n17_ := Aside0.mk ((by rw [hg]; exact Nat.ne_of_lt (blk_lt (g := gb450) (o := .cells #[.int .u64 t441, .slice Ao36 t442.length co36, .slice Ao37 t445.length co37] 26 (0, 0)) (by (with_reducible repeat (first | refine blk_drewN ?_ _ | refine blk_drew ?_ | refine blk_alloc ?_ _)); exact BK450.out)) : gb450 ≠ gb464))
                have n18_ := Aside0.mk ((by rw [hg]; exact Nat.ne_of_gt (blk_lt (g := gb450) (o := .cells #[.int .u64 t441, .slice Ao36 t442.length co36, .slice Ao37 t445.length co37] 26 (0, 0)) (by (with_reducible repeat (first | refine blk_drewN ?_ _ | refine blk_drew ?_ | refine blk_alloc ?_ _)); exact BK450.out)) : gb464 ≠ gb450))
                clear HO_5
                clear HO_7
                clear HO_9
                clear HO_451001
                clear HO_451002
                clear BK421
                clear BK422
                clear BK450
                clear HR454
                clear HB
                have HO_5 := n0_
                have HO_7 := n1_
                have HO_9 := n2_
                have HO_451001 := n3_
                have HO_451002 := n4_
                have BK421 := n5_
                have BK422 := n6_
                have BK450 := n7_
                have HR454 := n8_
                have HB := n9_
                have BK464 := n10_
                have GW464 := n11_
                have GE464 := n12_
                have NB421_464 := n13_
                have NB464_421 := n14_
                have NB422_464 := n15_
                have NB464_422 := n16_
                have NB450_464 := n17_
                have NB464_450 := n18_
                clear n0_ n1_ n2_ n3_ n4_ n5_ n6_ n7_ n8_ n9_ n10_ n11_ n12_ n13_ n14_ n15_ n16_ n17_ n18_
                clear hb hbox hg
                refine hK.out _ _ ⟨(blk_cell BK422.out 0).trans rfl, (blk_cell BK422.out 1).trans rfl, (blk_cell BK422.out 2).trans rfl⟩ (fun hHeld => ?_)
                clear hK K
                refine norm_ (a' := ?_) ?_ ?_
                rotate_left
                · show Act.put _ (some 13) _ = _
                  simp only [Act.put, List.setIfInBounds_toArray, List.set_cons_zero, List.set_cons_succ, i64_w, i32_w]
                  rfl
                refine one_ (i := 6) (N := some 63) #[true, true, true, true, true, true, true, false, false, false, false, true, false, false, false] rfl rfl (one_of HT_.out (by kernel_rfl)) (by decide) (fun K hK => ?_)
                refine goes_ Try.func16 (by kernel_rfl) rfl #[.slice A52 y451.length c52, .int .u64 a1_0] (by rfl) rfl rfl (by (try simp only [List.map_toArray, List.map_cons, List.map_nil]); first | done | rfl | (simp only [List.length_drop, List.length_take]; rfl)) ?_
                with_reducible refine (record_Decode.calls _ _ y451 a1_0 t455 t456 t459 t462 true _ ?side1 ?side2 A43.out).mono ?_
                (case side1 => repeat (first | exact (by repeat (first | (with_reducible exact HR454.out) | (with_reducible refine Kd.C_alloc ?_ _) | (with_reducible refine Kd.C_drewN ?_ _) | (with_reducible refine Kd.C_drew ?_) | exact HR454.out)) | (with_reducible refine Kd.C_alloc ?_ _) | (with_reducible refine Kd.C_drewN ?_ _) | (with_reducible refine Kd.C_drew ?_)))
                (case side2 => exact HC454.out)
                rintro e w54 ⟨v457, v460, rfl, ho0, ho1, hb⟩
                refine ⟨_, rfl, ?_⟩
                have n0_ := Aside0.mk (Kd.R_below (by (with_reducible repeat (first | apply Kd.R_alloc | apply Kd.R_drewN | apply Kd.R_drew)); exact HO_5.out) hb)
                have n1_ := Aside0.mk (Kd.R_below (by (with_reducible repeat (first | apply Kd.R_alloc | apply Kd.R_drewN | apply Kd.R_drew)); exact HO_7.out) hb)
                have n2_ := Aside0.mk (Kd.R_below (by (with_reducible repeat (first | apply Kd.R_alloc | apply Kd.R_drewN | apply Kd.R_drew)); exact HO_9.out) hb)
                have n3_ := Aside0.mk (Kd.S_elder' (by (with_reducible repeat (first | apply Kd.S_alloc | apply Kd.S_drewN | apply Kd.S_drew)); exact HO_451001.out) (Kd.S_base ho0) hb)
                have n4_ := Aside0.mk (Kd.R_elder' (by (with_reducible repeat (first | apply Kd.R_alloc | apply Kd.R_drewN | apply Kd.R_drew)); exact HO_451002.out) (Kd.R_base ho1) hb)
                have n5_ := Aside0.mk (Kd.S_lower (Kd.S_new' (Kd.S_new' (Kd.S_new' (Kd.S_new' ho0 (Kd.R_lt (by (with_reducible repeat (first | apply Kd.R_alloc | apply Kd.R_drewN | apply Kd.R_drew)); exact HO_5.out))) (Kd.R_lt (by (with_reducible repeat (first | apply Kd.R_alloc | apply Kd.R_drewN | apply Kd.R_drew)); exact HO_7.out))) (Kd.R_lt (by (with_reducible repeat (first | apply Kd.R_alloc | apply Kd.R_drewN | apply Kd.R_drew)); exact HO_9.out))) (Kd.S_lt (by (with_reducible repeat (first | apply Kd.S_alloc | apply Kd.S_drewN | apply Kd.S_drew)); exact HO_451001.out))) (below_size (by repeat (first | (with_reducible first | exact HB.out | apply below_alloc | apply pw_below_drewN | apply below_drew1 | refine below_set ?_ GE421.out | refine below_set ?_ GE422.out | refine below_set ?_ GE450.out | refine below_set ?_ GE464.out) | exact HB.out))))
                have n6_ := Aside0.mk (Kd.R_lower (Kd.R_new' ho1 (Kd.R_lt (by (with_reducible repeat (first | apply Kd.R_alloc | apply Kd.R_drewN | apply Kd.R_drew)); exact HO_451002.out))) (below_size (by repeat (first | (with_reducible first | exact HB.out | apply below_alloc | apply pw_below_drewN | apply below_drew1 | refine below_set ?_ GE421.out | refine below_set ?_ GE422.out | refine below_set ?_ GE450.out | refine below_set ?_ GE464.out) | exact HB.out))))
                have n7_ := Aside0.mk (blk_below (g := gb421) (o := .cells #[.int .u64 a0_0, .slice A0_1 l0_1.length c0_1, .slice A0_2 l0_2.length c0_2] 26 (0, 0)) (by (with_reducible repeat (first | refine blk_drewN ?_ _ | refine blk_drew ?_ | refine blk_alloc ?_ _)); exact BK421.out) hb)
                have n8_ := Aside0.mk (blk_below (g := gb422) (o := .cells #[.int .u64 a1_0, .slice A1_1 l1_1.length c1_1, .slice A1_2 l1_2.length c1_2] 26 (0, 0)) (by (with_reducible repeat (first | refine blk_drewN ?_ _ | refine blk_drew ?_ | refine blk_alloc ?_ _)); exact BK422.out) hb)
                have n9_ := Aside0.mk (blk_below (g := gb450) (o := .cells #[.int .u64 t441, .slice Ao36 t442.length co36, .slice Ao37 t445.length co37] 26 (0, 0)) (by (with_reducible repeat (first | refine blk_drewN ?_ _ | refine blk_drew ?_ | refine blk_alloc ?_ _)); exact BK450.out) hb)
                have n10_ := Aside0.mk (Kd.C_below (by repeat (first | (with_reducible exact HR454.out) | (with_reducible refine Kd.C_alloc ?_ _) | (with_reducible refine Kd.C_drewN ?_ _) | (with_reducible refine Kd.C_drew ?_) | exact HR454.out)) hb)
                have n11_ := Aside0.mk (blk_below (g := gb464) (o := .cells #[.int .u64 0, .slice none 0 0, .slice none 0 0] 26 (0, 0)) (by (with_reducible repeat (first | refine blk_drewN ?_ _ | refine blk_drew ?_ | refine blk_alloc ?_ _)); exact BK464.out) hb)
                have n12_ := Aside0.mk (below_step (by repeat (first | (with_reducible first | exact HB.out | apply below_alloc | apply pw_below_drewN | apply below_drew1 | refine below_set ?_ GE421.out | refine below_set ?_ GE422.out | refine below_set ?_ GE450.out | refine below_set ?_ GE464.out) | exact HB.out)) hb)
                clear HO_5
                clear HO_7
                clear HO_9
                clear HO_451001
                clear HO_451002
                clear BK421
                clear BK422
                clear BK450
                clear HR454
                clear BK464
                clear HB
                have HO_5 := n0_
                have HO_7 := n1_
                have HO_9 := n2_
                have HO_451001 := n3_
                have HO_451002 := n4_
                have HO458 := n5_
                have HO461 := n6_
                have BK421 := n7_
                have BK422 := n8_
                have BK450 := n9_
                have HR454 := n10_
                have BK464 := n11_
                have HB := n12_
                clear n0_ n1_ n2_ n3_ n4_ n5_ n6_ n7_ n8_ n9_ n10_ n11_ n12_
                (try clear hb)
                (try clear hb2)
                (try clear hk)
                (try clear hi)
                (try clear ho0)
                (try clear ho1)
                refine hK.out _ _ ⟨(blk_cell BK422.out 0).trans rfl, (blk_cell BK422.out 1).trans rfl, (blk_cell BK422.out 2).trans rfl⟩ (fun hHeld => ?_)
                clear hK K
                refine norm_ (a' := ?_) ?_ ?_
                rotate_left
                · show Act.put _ (some 63) _ = _
                  simp only [Act.put, List.setIfInBounds_toArray, List.set_cons_zero, List.set_cons_succ, i64_w, i32_w]
                  rfl
                refine pure_ (i := 7) (N := some 56) (v := ?_) (a' := ?_) #[true, true, true, true, true, true, true, true, false, false, false, true, false, false, false] rfl rfl (any_of HT_.out (by kernel_rfl)) (fun _ _ _ h => h) (Or.inl ⟨by rfl, ?_⟩) ?_ ?_
                rotate_left
                · intro w'
                  go_simp
                  with_reducible rfl
                rotate_left
                · simp only [Act.put, List.setIfInBounds_toArray, List.set_cons_zero, List.set_cons_succ, i64_w, i32_w]
                  rfl
                refine pure_ (i := 8) (N := some 64) (v := ?_) (a' := ?_) #[true, true, true, true, true, true, true, true, true, false, false, true, false, false, false] rfl rfl (any_of HT_.out (by kernel_rfl)) (fun _ _ _ h => h) (Or.inl ⟨by rfl, ?_⟩) ?_ ?_
                rotate_left
                · intro w'
                  go_simp
                  with_reducible rfl
                rotate_left
                · simp only [Act.put, List.setIfInBounds_toArray, List.set_cons_zero, List.set_cons_succ, i64_w, i32_w]
                  rfl
                refine pure_ (i := 9) (N := some 65) (v := ?_) (a' := ?_) #[true, true, true, true, true, true, true, true, true, true, false, true, false, false, false] rfl rfl (any_of HT_.out (by kernel_rfl)) (fun _ _ _ h => h) (Or.inl ⟨by rfl, ?_⟩) ?_ ?_
                rotate_left
                · intro w'
                  go_simp
                  with_reducible rfl
                rotate_left
                · simp only [Act.put, List.setIfInBounds_toArray, List.set_cons_zero, List.set_cons_succ, i64_w, i32_w]
                  rfl
                refine pure_ (i := 10) (N := some 66) (v := ?_) (a' := ?_) #[true, true, true, true, true, true, true, true, true, true, true, true, false, false, false] rfl rfl (any_of HT_.out (by kernel_rfl)) (fun _ _ _ h => h) (Or.inl ⟨by rfl, ?_⟩) ?_ ?_
                rotate_left
                · intro w'
                  go_simp
                  with_reducible rfl
                rotate_left
                · simp only [Act.put, List.setIfInBounds_toArray, List.set_cons_zero, List.set_cons_succ, i64_w, i32_w]
                  rfl
                exact norm_ (by simp only [putAll, Act.put, List.setIfInBounds_toArray, List.set_cons_zero, List.set_cons_succ]) (hCont (v457, v460, gb464) _ ⟨hHeld, (by (with_reducible repeat (first | apply Kd.S_alloc | apply Kd.S_drewN | apply Kd.S_drew)); exact Kd.S_mono HO458.out (fun _ hk => ⟨hk.2, ⟨hk.1.1.1.2, ⟨hk.1.1.2, hk.1.2⟩⟩⟩)), (by (with_reducible repeat (first | apply Kd.R_alloc | apply Kd.R_drewN | apply Kd.R_drew)); exact Kd.R_mono HO461.out (fun _ hk => hk.2)), (by (with_reducible repeat (first | apply Kd.S_alloc | apply Kd.S_drewN | apply Kd.S_drew)); exact Kd.S_mono HO_451001.out (fun _ hk => ⟨hk.2, ⟨hk.1.1, ⟨hk.1.2.1, hk.1.2.2⟩⟩⟩)), (by (with_reducible repeat (first | apply Kd.R_alloc | apply Kd.R_drewN | apply Kd.R_drew)); exact Kd.R_mono HO_451002.out (fun _ hk => hk.2)), (by (with_reducible repeat (first | apply Kd.R_alloc | apply Kd.R_drewN | apply Kd.R_drew)); exact HO_5.out), (by (with_reducible repeat (first | apply Kd.R_alloc | apply Kd.R_drewN | apply Kd.R_drew)); exact HO_7.out), (by (with_reducible repeat (first | apply Kd.R_alloc | apply Kd.R_drewN | apply Kd.R_drew)); exact HO_9.out), (by (with_reducible repeat (first | refine blk_drewN ?_ _ | refine blk_drew ?_ | refine blk_alloc ?_ _)); exact BK421.out), (by (with_reducible repeat (first | refine blk_drewN ?_ _ | refine blk_drew ?_ | refine blk_alloc ?_ _)); exact BK422.out), (by (with_reducible repeat (first | refine blk_drewN ?_ _ | refine blk_drew ?_ | refine blk_alloc ?_ _)); exact BK450.out), (by (with_reducible repeat (first | refine blk_drewN ?_ _ | refine blk_drew ?_ | refine blk_alloc ?_ _)); exact BK464.out), GW464.out, GE464.out, NB421_464.out, NB464_421.out, NB422_464.out, NB464_422.out, NB450_464.out, NB464_450.out, (by repeat (first | (with_reducible first | exact HB.out | apply below_alloc | apply pw_below_drewN | apply below_drew1 | refine below_set ?_ GE421.out | refine below_set ?_ GE422.out | refine below_set ?_ GE450.out | refine below_set ?_ GE464.out) | exact HB.out))⟩)
            rintro ⟨v457, v460, gb464⟩ w55 ⟨hS_, h0_, h1_, h2_, h3_, h4_, h5_, h6_, h7_, h8_, h9_, h10_, h11_, h12_, h13_, h14_, h15_, h16_, h17_, h18_, h19_⟩
            have n0_ : Aside0 (Kd.S k43 43 w55 w.heap.size (fun k_ => some k_ ≠ (.slice Ao36 t442.length co36 : Value).ownBlock ∧ some k_ ≠ (.slice Ao25 t424.length co25 : Value).ownBlock ∧ some k_ ≠ (.slice Ao27 t428.length co27 : Value).ownBlock ∧ some k_ ≠ (.slice Ao30 y438.length co30 : Value).ownBlock) v457 t456) := ⟨h0_⟩
            have n1_ : Aside0 (Kd.R (Kd.int .i64) 3 w55 w.heap.size (fun k_ => some k_ ≠ (.slice Ao37 t445.length co37 : Value).ownBlock) v460 t459) := ⟨h1_⟩
            have n2_ : Aside0 (Kd.S k43 43 w55 w.heap.size (fun k_ => some k_ ≠ (v457 : Value).ownBlock ∧ some k_ ≠ (.slice Ao25 t424.length co25 : Value).ownBlock ∧ some k_ ≠ (.slice Ao27 t428.length co27 : Value).ownBlock ∧ some k_ ≠ (.slice Ao30 y438.length co30 : Value).ownBlock) (.slice Ao36 t442.length co36) t442) := ⟨h2_⟩
            have n3_ : Aside0 (Kd.R (Kd.int .i64) 3 w55 w.heap.size (fun k_ => some k_ ≠ (v460 : Value).ownBlock) (.slice Ao37 t445.length co37) t445) := ⟨h3_⟩
            have n4_ : Aside0 (Kd.R (Kd.int .u8) 5 w55 w.heap.size (fun k_ => some k_ ≠ (.slice Ao27 t428.length co27 : Value).ownBlock ∧ some k_ ≠ (.slice Ao30 y438.length co30 : Value).ownBlock) (.slice Ao25 t424.length co25) t424) := ⟨h4_⟩
            have n5_ : Aside0 (Kd.R (Kd.int .u8) 5 w55 w.heap.size (fun k_ => some k_ ≠ (.slice Ao25 t424.length co25 : Value).ownBlock ∧ some k_ ≠ (.slice Ao30 y438.length co30 : Value).ownBlock) (.slice Ao27 t428.length co27) t428) := ⟨h5_⟩
            have n6_ : Aside0 (Kd.R (Kd.int .u8) 5 w55 w.heap.size (fun k_ => some k_ ≠ (.slice Ao25 t424.length co25 : Value).ownBlock ∧ some k_ ≠ (.slice Ao27 t428.length co27 : Value).ownBlock) (.slice Ao30 y438.length co30) y438) := ⟨h6_⟩
            have n7_ : Aside0 (w55.heap[gb421]? = some (.cells #[.int .u64 a0_0, .slice A0_1 l0_1.length c0_1, .slice A0_2 l0_2.length c0_2] 26 (0, 0))) := ⟨h7_⟩
            have n8_ : Aside0 (w55.heap[gb422]? = some (.cells #[.int .u64 a1_0, .slice A1_1 l1_1.length c1_1, .slice A1_2 l1_2.length c1_2] 26 (0, 0))) := ⟨h8_⟩
            have n9_ : Aside0 (w55.heap[gb450]? = some (.cells #[.int .u64 t441, .slice Ao36 t442.length co36, .slice Ao37 t445.length co37] 26 (0, 0))) := ⟨h9_⟩
            have n10_ : Aside0 (w55.heap[gb464]? = some (.cells #[.int .u64 0, .slice none 0 0, .slice none 0 0] 26 (0, 0))) := ⟨h10_⟩
            have n11_ : Aside0 (w.heap.size ≤ gb464) := ⟨h11_⟩
            have n12_ : Aside0 (w.heap.size ≤ gb464) := ⟨h12_⟩
            have n13_ : Aside0 (gb421 ≠ gb464) := ⟨h13_⟩
            have n14_ : Aside0 (gb464 ≠ gb421) := ⟨h14_⟩
            have n15_ : Aside0 (gb422 ≠ gb464) := ⟨h15_⟩
            have n16_ : Aside0 (gb464 ≠ gb422) := ⟨h16_⟩
            have n17_ : Aside0 (gb450 ≠ gb464) := ⟨h17_⟩
            have n18_ : Aside0 (gb464 ≠ gb450) := ⟨h18_⟩
            have n19_ : Aside0 (Below w.heap.size w w55) := ⟨h19_⟩
            clear HO_5
            clear HO_7
            clear HO_9
            clear HO_451001
            clear HO_451002
            clear BK421
            clear BK422
            clear BK450
            clear HB
            clear h0_ h1_ h2_ h3_ h4_ h5_ h6_ h7_ h8_ h9_ h10_ h11_ h12_ h13_ h14_ h15_ h16_ h17_ h18_ h19_
            have HO458 := n0_
            have HO461 := n1_
            have HO_451001 := n2_
            have HO_451002 := n3_
            have HO_5 := n4_
            have HO_7 := n5_
            have HO_9 := n6_
            have BK421 := n7_
            have BK422 := n8_
            have BK450 := n9_
            have BK464 := n10_
            have GW464 := n11_
            have GE464 := n12_
            have NB421_464 := n13_
            have NB464_421 := n14_
            have NB422_464 := n15_
            have NB464_422 := n16_
            have NB450_464 := n17_
            have NB464_450 := n18_
            have HB := n19_
            clear n0_ n1_ n2_ n3_ n4_ n5_ n6_ n7_ n8_ n9_ n10_ n11_ n12_ n13_ n14_ n15_ n16_ n17_ n18_ n19_
            have hHeld : w55.cell? ⟨gb422, 0, none⟩ = some (.int .u64 a1_0) ∧ w55.cell? ⟨gb422, 1, none⟩ = some (.slice A1_1 l1_1.length c1_1) ∧ w55.cell? ⟨gb422, 2, none⟩ = some (.slice A1_2 l1_2.length c1_2) := hS_
            obtain ⟨Ao57, co57, eo57⟩ := Kd.S_slice HO458.out
            (first | subst eo57 | (injection eo57 with f1_ f2_ f3_; have f4_ := f1_.symm; have f5_ := f3_.symm; clear f1_ f2_ f3_; subst f4_; subst f5_))
            obtain ⟨Ao59, co59, eo59⟩ := Kd.R_slice HO461.out
            (first | subst eo59 | (injection eo59 with f1_ f2_ f3_; have f4_ := f1_.symm; have f5_ := f3_.symm; clear f1_ f2_ f3_; subst f4_; subst f5_))
            refine norm_ (a' := ?_) ?_ ?_
            rotate_left
            · simp only [putAll, Act.put, List.setIfInBounds_toArray, List.set_cons_zero, List.set_cons_succ]
              rfl
            refine one_ (i := 12) (N := none) #[true, true, true, true, true, true, true, true, true, true, true, true, true, false, false] rfl rfl (one_of HT_.out (by kernel_rfl)) (by decide) (fun K hK => ?_)
            have hs56 : w55.cell? ⟨gb464, 0, none⟩ = some (.int .u64 0) := (blk_cell BK464.out 0).trans rfl
            have hfs56 := blk_frozen BK464.out 0
            have hns56_0 := NB421_464.out
            have hns56_1 := NB422_464.out
            have hns56_2 := NB450_464.out
            have hms56_0 := NB464_421.out
            have hms56_1 := NB464_422.out
            have hms56_2 := NB464_450.out
            have hs58 : w55.cell? ⟨gb464, 1, none⟩ = some (.slice none 0 0) := (blk_cell BK464.out 1).trans rfl
            have hfs58 := blk_frozen BK464.out 1
            have hns58_0 := NB421_464.out
            have hns58_1 := NB422_464.out
            have hns58_2 := NB450_464.out
            have hms58_0 := NB464_421.out
            have hms58_1 := NB464_422.out
            have hms58_2 := NB464_450.out
            have hs60 : w55.cell? ⟨gb464, 2, none⟩ = some (.slice none 0 0) := (blk_cell BK464.out 2).trans rfl
            have hfs60 := blk_frozen BK464.out 2
            have hns60_0 := NB421_464.out
            have hns60_1 := NB422_464.out
            have hns60_2 := NB450_464.out
            have hms60_0 := NB464_421.out
            have hms60_1 := NB464_422.out
            have hms60_2 := NB464_450.out
            refine skip_ (w1 := ?_) (by rfl) rfl ?_ ?_
            rotate_left
            · go_simp
              rfl
            refine hK.out _ _ ⟨((cell_far (p := ⟨gb464, _, none⟩) NB422_464.out _).trans (((cell_far (p := ⟨gb464, _, none⟩) NB422_464.out _).trans (((cell_far (p := ⟨gb464, _, none⟩) NB422_464.out _).trans (hHeld.1)))))), ((cell_far (p := ⟨gb464, _, none⟩) NB422_464.out _).trans (((cell_far (p := ⟨gb464, _, none⟩) NB422_464.out _).trans (((cell_far (p := ⟨gb464, _, none⟩) NB422_464.out _).trans (hHeld.2.1)))))), ((cell_far (p := ⟨gb464, _, none⟩) NB422_464.out _).trans (((cell_far (p := ⟨gb464, _, none⟩) NB422_464.out _).trans (((cell_far (p := ⟨gb464, _, none⟩) NB422_464.out _).trans (hHeld.2.2))))))⟩ (fun hHeld => ?_)
            clear hK K
            refine pure_ (i := 13) (N := some 14) (v := ?_) (a' := ?_) #[true, true, true, true, true, true, true, true, true, true, true, true, true, true, false] rfl rfl (any_of HT_.out (by kernel_rfl)) (fun _ _ _ h => h) (Or.inl ⟨by rfl, ?_⟩) ?_ ?_
            rotate_left
            · intro w'
              go_simp
              with_reducible rfl
            rotate_left
            · simp only [Act.put, List.setIfInBounds_toArray, List.set_cons_zero, List.set_cons_succ, i64_w, i32_w]
              rfl
            refine pure_ (i := 14) (N := some 15) (v := ?_) (a' := ?_) #[true, true, true, true, true, true, true, true, true, true, true, true, true, true, true] rfl rfl (any_of HT_.out (by kernel_rfl)) (fun _ _ _ h => h) (Or.inl ⟨by rfl, ?_⟩) ?_ ?_
            rotate_left
            · intro w'
              go_simp
              with_reducible rfl
            rotate_left
            · simp only [Act.put, List.setIfInBounds_toArray, List.set_cons_zero, List.set_cons_succ, i64_w, i32_w]
              rfl
            refine done_ (done_of HT_.out (by kernel_rfl)) ?_
            try go_wp2
            have n0_ : Aside0 (Kd.R (Kd.int .u8) 5 (((w55.setCell ⟨gb464, 0, none⟩ (.int .u64 t455)).setCell ⟨gb464, 1, none⟩ (.slice Ao57 t456.length co57)).setCell ⟨gb464, 2, none⟩ (.slice Ao59 t459.length co59)) w.heap.size (fun k_ => some k_ ≠ (.slice Ao27 t428.length co27 : Value).ownBlock ∧ some k_ ≠ (.slice Ao30 y438.length co30 : Value).ownBlock) (.slice Ao25 t424.length co25) t424) := ⟨by (with_reducible repeat (first | apply Kd.R_alloc | apply Kd.R_drewN | apply Kd.R_drew)); exact Kd.R_mono (Kd.R_far (p := ⟨gb464, 2, none⟩) (Kd.R_far (p := ⟨gb464, 1, none⟩) (Kd.R_far (p := ⟨gb464, 0, none⟩) (Kd.R_types HO_5.out BK464.out (by decide)) (fun _ hk => hk.2) (.int .u64 t455)) (fun _ hk => hk.2) (.slice Ao57 t456.length co57)) (fun _ hk => hk.2) (.slice Ao59 t459.length co59)) (fun _ hk => ⟨hk.1.1, hk.1.2⟩)⟩
            have n1_ : Aside0 (Kd.R (Kd.int .u8) 5 (((w55.setCell ⟨gb464, 0, none⟩ (.int .u64 t455)).setCell ⟨gb464, 1, none⟩ (.slice Ao57 t456.length co57)).setCell ⟨gb464, 2, none⟩ (.slice Ao59 t459.length co59)) w.heap.size (fun k_ => some k_ ≠ (.slice Ao25 t424.length co25 : Value).ownBlock ∧ some k_ ≠ (.slice Ao30 y438.length co30 : Value).ownBlock) (.slice Ao27 t428.length co27) t428) := ⟨by (with_reducible repeat (first | apply Kd.R_alloc | apply Kd.R_drewN | apply Kd.R_drew)); exact Kd.R_mono (Kd.R_far (p := ⟨gb464, 2, none⟩) (Kd.R_far (p := ⟨gb464, 1, none⟩) (Kd.R_far (p := ⟨gb464, 0, none⟩) (Kd.R_types HO_7.out BK464.out (by decide)) (fun _ hk => hk.2) (.int .u64 t455)) (fun _ hk => hk.2) (.slice Ao57 t456.length co57)) (fun _ hk => hk.2) (.slice Ao59 t459.length co59)) (fun _ hk => ⟨hk.1.1, hk.1.2⟩)⟩
            have n2_ : Aside0 (Kd.R (Kd.int .u8) 5 (((w55.setCell ⟨gb464, 0, none⟩ (.int .u64 t455)).setCell ⟨gb464, 1, none⟩ (.slice Ao57 t456.length co57)).setCell ⟨gb464, 2, none⟩ (.slice Ao59 t459.length co59)) w.heap.size (fun k_ => some k_ ≠ (.slice Ao25 t424.length co25 : Value).ownBlock ∧ some k_ ≠ (.slice Ao27 t428.length co27 : Value).ownBlock) (.slice Ao30 y438.length co30) y438) := ⟨by (with_reducible repeat (first | apply Kd.R_alloc | apply Kd.R_drewN | apply Kd.R_drew)); exact Kd.R_mono (Kd.R_far (p := ⟨gb464, 2, none⟩) (Kd.R_far (p := ⟨gb464, 1, none⟩) (Kd.R_far (p := ⟨gb464, 0, none⟩) (Kd.R_types HO_9.out BK464.out (by decide)) (fun _ hk => hk.2) (.int .u64 t455)) (fun _ hk => hk.2) (.slice Ao57 t456.length co57)) (fun _ hk => hk.2) (.slice Ao59 t459.length co59)) (fun _ hk => ⟨hk.1.1, hk.1.2⟩)⟩
            have n3_ : Aside0 (Kd.S k43 43 (((w55.setCell ⟨gb464, 0, none⟩ (.int .u64 t455)).setCell ⟨gb464, 1, none⟩ (.slice Ao57 t456.length co57)).setCell ⟨gb464, 2, none⟩ (.slice Ao59 t459.length co59)) w.heap.size (fun k_ => some k_ ≠ (.slice Ao25 t424.length co25 : Value).ownBlock ∧ some k_ ≠ (.slice Ao27 t428.length co27 : Value).ownBlock ∧ some k_ ≠ (.slice Ao30 y438.length co30 : Value).ownBlock ∧ some k_ ≠ (.slice Ao57 t456.length co57 : Value).ownBlock) (.slice Ao36 t442.length co36) t442) := ⟨by (with_reducible repeat (first | apply Kd.S_alloc | apply Kd.S_drewN | apply Kd.S_drew)); exact Kd.S_mono (Kd.S_far (p := ⟨gb464, 2, none⟩) (Kd.S_far (p := ⟨gb464, 1, none⟩) (Kd.S_far (p := ⟨gb464, 0, none⟩) (Kd.S_types HO_451001.out BK464.out (by decide)) (fun _ hk => hk.2) (.int .u64 t455)) (fun _ hk => hk.2) (.slice Ao57 t456.length co57)) (fun _ hk => hk.2) (.slice Ao59 t459.length co59)) (fun _ hk => ⟨hk.1.2.1, ⟨hk.1.2.2.1, ⟨hk.1.2.2.2, hk.1.1⟩⟩⟩)⟩
            have n4_ : Aside0 (Kd.R (Kd.int .i64) 3 (((w55.setCell ⟨gb464, 0, none⟩ (.int .u64 t455)).setCell ⟨gb464, 1, none⟩ (.slice Ao57 t456.length co57)).setCell ⟨gb464, 2, none⟩ (.slice Ao59 t459.length co59)) w.heap.size (fun k_ => some k_ ≠ (.slice Ao59 t459.length co59 : Value).ownBlock) (.slice Ao37 t445.length co37) t445) := ⟨by (with_reducible repeat (first | apply Kd.R_alloc | apply Kd.R_drewN | apply Kd.R_drew)); exact Kd.R_mono (Kd.R_far (p := ⟨gb464, 2, none⟩) (Kd.R_far (p := ⟨gb464, 1, none⟩) (Kd.R_far (p := ⟨gb464, 0, none⟩) (Kd.R_types HO_451002.out BK464.out (by decide)) (fun _ hk => hk.2) (.int .u64 t455)) (fun _ hk => hk.2) (.slice Ao57 t456.length co57)) (fun _ hk => hk.2) (.slice Ao59 t459.length co59)) (fun _ hk => hk.1)⟩
            have n5_ : Aside0 (Kd.S k43 43 (((w55.setCell ⟨gb464, 0, none⟩ (.int .u64 t455)).setCell ⟨gb464, 1, none⟩ (.slice Ao57 t456.length co57)).setCell ⟨gb464, 2, none⟩ (.slice Ao59 t459.length co59)) w.heap.size (fun k_ => some k_ ≠ (.slice Ao25 t424.length co25 : Value).ownBlock ∧ some k_ ≠ (.slice Ao27 t428.length co27 : Value).ownBlock ∧ some k_ ≠ (.slice Ao30 y438.length co30 : Value).ownBlock ∧ some k_ ≠ (.slice Ao36 t442.length co36 : Value).ownBlock) (.slice Ao57 t456.length co57) t456) := ⟨by (with_reducible repeat (first | apply Kd.S_alloc | apply Kd.S_drewN | apply Kd.S_drew)); exact Kd.S_mono (Kd.S_far (p := ⟨gb464, 2, none⟩) (Kd.S_far (p := ⟨gb464, 1, none⟩) (Kd.S_far (p := ⟨gb464, 0, none⟩) (Kd.S_types HO458.out BK464.out (by decide)) (fun _ hk => hk.2) (.int .u64 t455)) (fun _ hk => hk.2) (.slice Ao57 t456.length co57)) (fun _ hk => hk.2) (.slice Ao59 t459.length co59)) (fun _ hk => ⟨hk.1.2.1, ⟨hk.1.2.2.1, ⟨hk.1.2.2.2, hk.1.1⟩⟩⟩)⟩
            have n6_ : Aside0 (Kd.R (Kd.int .i64) 3 (((w55.setCell ⟨gb464, 0, none⟩ (.int .u64 t455)).setCell ⟨gb464, 1, none⟩ (.slice Ao57 t456.length co57)).setCell ⟨gb464, 2, none⟩ (.slice Ao59 t459.length co59)) w.heap.size (fun k_ => some k_ ≠ (.slice Ao37 t445.length co37 : Value).ownBlock) (.slice Ao59 t459.length co59) t459) := ⟨by (with_reducible repeat (first | apply Kd.R_alloc | apply Kd.R_drewN | apply Kd.R_drew)); exact Kd.R_mono (Kd.R_far (p := ⟨gb464, 2, none⟩) (Kd.R_far (p := ⟨gb464, 1, none⟩) (Kd.R_far (p := ⟨gb464, 0, none⟩) (Kd.R_types HO461.out BK464.out (by decide)) (fun _ hk => hk.2) (.int .u64 t455)) (fun _ hk => hk.2) (.slice Ao57 t456.length co57)) (fun _ hk => hk.2) (.slice Ao59 t459.length co59)) (fun _ hk => hk.1)⟩
            have n7_ : Aside0 ((((w55.setCell ⟨gb464, 0, none⟩ (.int .u64 t455)).setCell ⟨gb464, 1, none⟩ (.slice Ao57 t456.length co57)).setCell ⟨gb464, 2, none⟩ (.slice Ao59 t459.length co59)).heap[gb421]? = some (.cells #[.int .u64 a0_0, .slice A0_1 l0_1.length c0_1, .slice A0_2 l0_2.length c0_2] 26 (0, 0))) := ⟨by (with_reducible repeat (first | refine blk_drewN ?_ _ | refine blk_drew ?_ | refine blk_alloc ?_ _)); refine blk_far ?_ NB421_464.out _; (with_reducible repeat (first | refine blk_drewN ?_ _ | refine blk_drew ?_ | refine blk_alloc ?_ _)); refine blk_far ?_ NB421_464.out _; (with_reducible repeat (first | refine blk_drewN ?_ _ | refine blk_drew ?_ | refine blk_alloc ?_ _)); refine blk_far ?_ NB421_464.out _; (with_reducible repeat (first | refine blk_drewN ?_ _ | refine blk_drew ?_ | refine blk_alloc ?_ _)); exact BK421.out⟩
            have n8_ : Aside0 ((((w55.setCell ⟨gb464, 0, none⟩ (.int .u64 t455)).setCell ⟨gb464, 1, none⟩ (.slice Ao57 t456.length co57)).setCell ⟨gb464, 2, none⟩ (.slice Ao59 t459.length co59)).heap[gb422]? = some (.cells #[.int .u64 a1_0, .slice A1_1 l1_1.length c1_1, .slice A1_2 l1_2.length c1_2] 26 (0, 0))) := ⟨by (with_reducible repeat (first | refine blk_drewN ?_ _ | refine blk_drew ?_ | refine blk_alloc ?_ _)); refine blk_far ?_ NB422_464.out _; (with_reducible repeat (first | refine blk_drewN ?_ _ | refine blk_drew ?_ | refine blk_alloc ?_ _)); refine blk_far ?_ NB422_464.out _; (with_reducible repeat (first | refine blk_drewN ?_ _ | refine blk_drew ?_ | refine blk_alloc ?_ _)); refine blk_far ?_ NB422_464.out _; (with_reducible repeat (first | refine blk_drewN ?_ _ | refine blk_drew ?_ | refine blk_alloc ?_ _)); exact BK422.out⟩
            have n9_ : Aside0 ((((w55.setCell ⟨gb464, 0, none⟩ (.int .u64 t455)).setCell ⟨gb464, 1, none⟩ (.slice Ao57 t456.length co57)).setCell ⟨gb464, 2, none⟩ (.slice Ao59 t459.length co59)).heap[gb450]? = some (.cells #[.int .u64 t441, .slice Ao36 t442.length co36, .slice Ao37 t445.length co37] 26 (0, 0))) := ⟨by (with_reducible repeat (first | refine blk_drewN ?_ _ | refine blk_drew ?_ | refine blk_alloc ?_ _)); refine blk_far ?_ NB450_464.out _; (with_reducible repeat (first | refine blk_drewN ?_ _ | refine blk_drew ?_ | refine blk_alloc ?_ _)); refine blk_far ?_ NB450_464.out _; (with_reducible repeat (first | refine blk_drewN ?_ _ | refine blk_drew ?_ | refine blk_alloc ?_ _)); refine blk_far ?_ NB450_464.out _; (with_reducible repeat (first | refine blk_drewN ?_ _ | refine blk_drew ?_ | refine blk_alloc ?_ _)); exact BK450.out⟩
            have n10_ : Aside0 ((((w55.setCell ⟨gb464, 0, none⟩ (.int .u64 t455)).setCell ⟨gb464, 1, none⟩ (.slice Ao57 t456.length co57)).setCell ⟨gb464, 2, none⟩ (.slice Ao59 t459.length co59)).heap[gb464]? = some (.cells #[.int .u64 t455, .slice Ao57 t456.length co57, .slice Ao59 t459.length co59] 26 (0, 0))) := ⟨by (with_reducible repeat (first | refine blk_drewN ?_ _ | refine blk_drew ?_ | refine blk_alloc ?_ _)); refine blk_put (cs := #[.int .u64 t455, .slice Ao57 t456.length co57, .slice none 0 0]) ?_ 2 _ rfl; (with_reducible repeat (first | refine blk_drewN ?_ _ | refine blk_drew ?_ | refine blk_alloc ?_ _)); refine blk_put (cs := #[.int .u64 t455, .slice none 0 0, .slice none 0 0]) ?_ 1 _ rfl; (with_reducible repeat (first | refine blk_drewN ?_ _ | refine blk_drew ?_ | refine blk_alloc ?_ _)); refine blk_put (cs := #[.int .u64 0, .slice none 0 0, .slice none 0 0]) ?_ 0 _ rfl; (with_reducible repeat (first | refine blk_drewN ?_ _ | refine blk_drew ?_ | refine blk_alloc ?_ _)); exact BK464.out⟩
            have n11_ : Aside0 (Below w.heap.size w (((w55.setCell ⟨gb464, 0, none⟩ (.int .u64 t455)).setCell ⟨gb464, 1, none⟩ (.slice Ao57 t456.length co57)).setCell ⟨gb464, 2, none⟩ (.slice Ao59 t459.length co59))) := ⟨by repeat (first | (with_reducible first | exact HB.out | apply below_alloc | apply pw_below_drewN | apply below_drew1 | refine below_set ?_ GE421.out | refine below_set ?_ GE422.out | refine below_set ?_ GE450.out | refine below_set ?_ GE464.out) | exact HB.out)⟩
            (try clear HO_5)
            (try clear HO_7)
            (try clear HO_9)
            (try clear HO_451001)
            (try clear HO_451002)
            (try clear HO458)
            (try clear HO461)
            (try clear BK421)
            (try clear BK422)
            (try clear BK450)
            (try clear BK464)
            (try clear HB)
            generalize (((w55.setCell ⟨gb464, 0, none⟩ (.int .u64 t455)).setCell ⟨gb464, 1, none⟩ (.slice Ao57 t456.length co57)).setCell ⟨gb464, 2, none⟩ (.slice Ao59 t459.length co59)) = w61 at n0_ n1_ n2_ n3_ n4_ n5_ n6_ n7_ n8_ n9_ n10_ n11_ ⊢
            have HO_5 := n0_
            have HO_7 := n1_
            have HO_9 := n2_
            have HO_451001 := n3_
            have HO_451002 := n4_
            have HO458 := n5_
            have HO461 := n6_
            have BK421 := n7_
            have BK422 := n8_
            have BK450 := n9_
            have BK464 := n10_
            have HB := n11_
            clear n0_ n1_ n2_ n3_ n4_ n5_ n6_ n7_ n8_ n9_ n10_ n11_
            have n0_ := Aside0.mk (Kd.R_drew HO_5.out)
            have n1_ := Aside0.mk (Kd.R_drew HO_7.out)
            have n2_ := Aside0.mk (Kd.R_drew HO_9.out)
            have n3_ := Aside0.mk (Kd.S_drew HO_451001.out)
            have n4_ := Aside0.mk (Kd.R_drew HO_451002.out)
            have n5_ := Aside0.mk (Kd.S_drew HO458.out)
            have n6_ := Aside0.mk (Kd.R_drew HO461.out)
            have n7_ := Aside0.mk (blk_drew BK421.out)
            have n8_ := Aside0.mk (blk_drew BK422.out)
            have n9_ := Aside0.mk (blk_drew BK450.out)
            have n10_ := Aside0.mk (blk_drew BK464.out)
            have n11_ := Aside0.mk (below_drew1 HB.out)
            clear HO_5
            clear HO_7
            clear HO_9
            clear HO_451001
            clear HO_451002
            clear HO458
            clear HO461
            clear BK421
            clear BK422
            clear BK450
            clear BK464
            clear HB
            have HO_5 := n0_
            have HO_7 := n1_
            have HO_9 := n2_
            have HO_451001 := n3_
            have HO_451002 := n4_
            have HO458 := n5_
            have HO461 := n6_
            have BK421 := n7_
            have BK422 := n8_
            have BK450 := n9_
            have BK464 := n10_
            have HB := n11_
            clear n0_ n1_ n2_ n3_ n4_ n5_ n6_ n7_ n8_ n9_ n10_ n11_
            have hcv65 := own_string (P := Try.prog) Try.underlying29 Try.underlying5 Try.underlying9 (Kd.own_of_R HO_5.out)
            have hcd66 := fun (nd_ : Nat) => own_string (P := Try.prog) Try.underlying29 Try.underlying5 Try.underlying9 (Kd.own_of_R (Kd.R_drewN HO_5.out nd_))
            have hcv67 := own_string (P := Try.prog) Try.underlying29 Try.underlying5 Try.underlying9 (Kd.own_of_R HO_7.out)
            have hcd68 := fun (nd_ : Nat) => own_string (P := Try.prog) Try.underlying29 Try.underlying5 Try.underlying9 (Kd.own_of_R (Kd.R_drewN HO_7.out nd_))
            obtain ⟨hcv65T, hcv65H⟩ : ∃ T_ : World → Prop, T_ = X.cvS hcv65 := ⟨_, rfl⟩
            replace hcv65H := Aside0.mk hcv65H
            obtain ⟨hcv67T, hcv67H⟩ : ∃ T_ : World → Prop, T_ = X.cvS hcv67 := ⟨_, rfl⟩
            replace hcv67H := Aside0.mk hcv67H
            refine start_ (n := 30) (S := fun w' => w'.cell? ⟨gb450, 0, none⟩ = some (.int .u64 t441) ∧ w'.cell? ⟨gb450, 1, none⟩ = some (.slice Ao36 t442.length co36) ∧ w'.cell? ⟨gb450, 2, none⟩ = some (.slice Ao37 t445.length co37) ∧ w'.cell? ⟨gb421, 0, none⟩ = some (.int .u64 a0_0) ∧ w'.cell? ⟨gb421, 1, none⟩ = some (.slice A0_1 l0_1.length c0_1) ∧ w'.cell? ⟨gb421, 2, none⟩ = some (.slice A0_2 l0_2.length c0_2) ∧ w'.cell? ⟨gb464, 0, none⟩ = some (.int .u64 t455) ∧ w'.cell? ⟨gb464, 1, none⟩ = some (.slice Ao57 t456.length co57) ∧ w'.cell? ⟨gb464, 2, none⟩ = some (.slice Ao59 t459.length co59) ∧ w'.cell? ⟨gb422, 0, none⟩ = some (.int .u64 a1_0) ∧ w'.cell? ⟨gb422, 1, none⟩ = some (.slice A1_1 l1_1.length c1_1) ∧ w'.cell? ⟨gb422, 2, none⟩ = some (.slice A1_2 l1_2.length c1_2) ∧ hcv65T w' ∧ hcv67T w') (ds := []) #[false, false, false, false, false, false, false, false, false, false, false, false, false, false, false, false, false, false, false, false, false, false, false, false, false, false, false, false, false, false] (by kernel_rfl) rfl rfl ⟨(blk_cell BK450.out 0).trans rfl, (blk_cell BK450.out 1).trans rfl, (blk_cell BK450.out 2).trans rfl, (blk_cell BK421.out 0).trans rfl, (blk_cell BK421.out 1).trans rfl, (blk_cell BK421.out 2).trans rfl, (blk_cell BK464.out 0).trans rfl, (blk_cell BK464.out 1).trans rfl, (blk_cell BK464.out 2).trans rfl, (blk_cell BK422.out 0).trans rfl, (blk_cell BK422.out 1).trans rfl, (blk_cell BK422.out 2).trans rfl, (by rw [hcv65H.out]; exact own_string (P := Try.prog) Try.underlying29 Try.underlying5 Try.underlying9 (Kd.own_of_R HO_5.out)), (by rw [hcv67H.out]; exact own_string (P := Try.prog) Try.underlying29 Try.underlying5 Try.underlying9 (Kd.own_of_R HO_7.out))⟩ (fun hHeld => ?_); refine with_tabW undercroftlaw03_RecordTwo.tab12 undercroftlaw03_RecordTwo.bits12 (fun HT_ HW_ => ?_)
            generalize w61.drew = w62 at HO_5 HO_7 HO_9 HO_451001 HO_451002 HO458 HO461 BK421 BK422 BK450 BK464 HB hHeld ⊢
            refine take_ (i := 0) (N := some 67) (v := ?_) (a' := ?_) #[true, false, false, false, false, false, false, false, false, false, false, false, false, false, false, false, false, false, false, false, false, false, false, false, false, false, false, false, false, false] rfl rfl (take_ofW HT_.out HW_.out (by kernel_rfl)) (fun _ _ _ h => h) (Or.inl ⟨by rfl, ?_⟩) hHeld ?_ ?_
            rotate_left
            · rintro w' ⟨s0, s1, s2, s3, s4, s5, s6, s7, s8, s9, s10, s11, cv0_, cv1_⟩
              go_simp
              with_reducible rfl
            rotate_left
            · simp only [Act.put, List.setIfInBounds_toArray, List.set_cons_zero, List.set_cons_succ, i64_w, i32_w]
              rfl
            refine take_ (i := 1) (N := some 68) (v := ?_) (a' := ?_) #[true, true, false, false, false, false, false, false, false, false, false, false, false, false, false, false, false, false, false, false, false, false, false, false, false, false, false, false, false, false] rfl rfl (take_ofW HT_.out HW_.out (by kernel_rfl)) (fun _ _ _ h => h) (Or.inl ⟨by rfl, ?_⟩) hHeld ?_ ?_
            rotate_left
            · rintro w' ⟨s0, s1, s2, s3, s4, s5, s6, s7, s8, s9, s10, s11, cv0_, cv1_⟩
              go_simp
              with_reducible rfl
            rotate_left
            · simp only [Act.put, List.setIfInBounds_toArray, List.set_cons_zero, List.set_cons_succ, i64_w, i32_w]
              rfl
            refine one_ (i := 2) (N := some 69) #[true, true, true, false, false, false, false, false, false, false, false, false, false, false, false, false, false, false, false, false, false, false, false, false, false, false, false, false, false, false] rfl rfl (one_of HT_.out (by kernel_rfl)) (by decide) (fun K hK => ?_)
            refine goes_ Try.func15 (by kernel_rfl) rfl #[.agg #[.int .u64 t441, .slice Ao36 t442.length co36, .slice Ao37 t445.length co37], .agg #[.int .u64 a0_0, .slice A0_1 l0_1.length c0_1, .slice A0_2 l0_2.length c0_2]] (by rfl) rfl rfl (by (try simp only [List.map_toArray, List.map_cons, List.map_nil]); first | done | rfl | (simp only [List.length_drop, List.length_take]; rfl)) ?_
            with_reducible refine (undercroftref03_Same.calls kj20 t441 _ _ t442 _ _ t445 a0_0 _ _ l0_1 _ _ l0_2 true _ ?side1 ?side2 ?side3 ?side4 ?side5 ?side6 ?side7 ?side8 A44.out).mono ?_
            (case side1 => repeat (first | exact (Kd.S_reads' HO_451001.out).2.2 | (with_reducible refine Kd.C_alloc ?_ _) | (with_reducible refine Kd.C_drewN ?_ _) | (with_reducible refine Kd.C_drew ?_)))
            (case side2 => exact (Kd.S_reads' HO_451001.out).2.1)
            (case side3 => repeat (first | exact (Kd.R_reads' HO_451002.out).2.2 | (with_reducible refine Kd.C_alloc ?_ _) | (with_reducible refine Kd.C_drewN ?_ _) | (with_reducible refine Kd.C_drew ?_)))
            (case side4 => exact (Kd.R_reads' HO_451002.out).2.1)
            (case side5 => repeat (first | exact (Kd.C_below HR0_1.out HB.out) | (with_reducible refine Kd.C_alloc ?_ _) | (with_reducible refine Kd.C_drewN ?_ _) | (with_reducible refine Kd.C_drew ?_)))
            (case side6 => exact HC0_1.out)
            (case side7 => repeat (first | exact (Kd.C_below HR0_2.out HB.out) | (with_reducible refine Kd.C_alloc ?_ _) | (with_reducible refine Kd.C_drewN ?_ _) | (with_reducible refine Kd.C_drew ?_)))
            (case side8 => exact HC0_2.out)
            rintro e w63 ⟨rfl, hb⟩
            refine ⟨_, rfl, ?_⟩
            have n0_ := Aside0.mk (Kd.R_below (by (with_reducible repeat (first | apply Kd.R_alloc | apply Kd.R_drewN | apply Kd.R_drew)); exact HO_5.out) hb)
            have n1_ := Aside0.mk (Kd.R_below (by (with_reducible repeat (first | apply Kd.R_alloc | apply Kd.R_drewN | apply Kd.R_drew)); exact HO_7.out) hb)
            have n2_ := Aside0.mk (Kd.R_below (by (with_reducible repeat (first | apply Kd.R_alloc | apply Kd.R_drewN | apply Kd.R_drew)); exact HO_9.out) hb)
            have n3_ := Aside0.mk (Kd.S_below (by (with_reducible repeat (first | apply Kd.S_alloc | apply Kd.S_drewN | apply Kd.S_drew)); exact HO_451001.out) hb)
            have n4_ := Aside0.mk (Kd.R_below (by (with_reducible repeat (first | apply Kd.R_alloc | apply Kd.R_drewN | apply Kd.R_drew)); exact HO_451002.out) hb)
            have n5_ := Aside0.mk (Kd.S_below (by (with_reducible repeat (first | apply Kd.S_alloc | apply Kd.S_drewN | apply Kd.S_drew)); exact HO458.out) hb)
            have n6_ := Aside0.mk (Kd.R_below (by (with_reducible repeat (first | apply Kd.R_alloc | apply Kd.R_drewN | apply Kd.R_drew)); exact HO461.out) hb)
            have n7_ := Aside0.mk (blk_below (g := gb421) (o := .cells #[.int .u64 a0_0, .slice A0_1 l0_1.length c0_1, .slice A0_2 l0_2.length c0_2] 26 (0, 0)) (by (with_reducible repeat (first | refine blk_drewN ?_ _ | refine blk_drew ?_ | refine blk_alloc ?_ _)); exact BK421.out) hb)
            have n8_ := Aside0.mk (blk_below (g := gb422) (o := .cells #[.int .u64 a1_0, .slice A1_1 l1_1.length c1_1, .slice A1_2 l1_2.length c1_2] 26 (0, 0)) (by (with_reducible repeat (first | refine blk_drewN ?_ _ | refine blk_drew ?_ | refine blk_alloc ?_ _)); exact BK422.out) hb)
            have n9_ := Aside0.mk (blk_below (g := gb450) (o := .cells #[.int .u64 t441, .slice Ao36 t442.length co36, .slice Ao37 t445.length co37] 26 (0, 0)) (by (with_reducible repeat (first | refine blk_drewN ?_ _ | refine blk_drew ?_ | refine blk_alloc ?_ _)); exact BK450.out) hb)
            have n10_ := Aside0.mk (blk_below (g := gb464) (o := .cells #[.int .u64 t455, .slice Ao57 t456.length co57, .slice Ao59 t459.length co59] 26 (0, 0)) (by (with_reducible repeat (first | refine blk_drewN ?_ _ | refine blk_drew ?_ | refine blk_alloc ?_ _)); exact BK464.out) hb)
            have n11_ := Aside0.mk (below_step (by repeat (first | (with_reducible first | exact HB.out | apply below_alloc | apply pw_below_drewN | apply below_drew1 | refine below_set ?_ GE421.out | refine below_set ?_ GE422.out | refine below_set ?_ GE450.out | refine below_set ?_ GE464.out) | exact HB.out)) hb)
            clear HO_5
            clear HO_7
            clear HO_9
            clear HO_451001
            clear HO_451002
            clear HO458
            clear HO461
            clear BK421
            clear BK422
            clear BK450
            clear BK464
            clear HB
            have HO_5 := n0_
            have HO_7 := n1_
            have HO_9 := n2_
            have HO_451001 := n3_
            have HO_451002 := n4_
            have HO458 := n5_
            have HO461 := n6_
            have BK421 := n7_
            have BK422 := n8_
            have BK450 := n9_
            have BK464 := n10_
            have HB := n11_
            clear n0_ n1_ n2_ n3_ n4_ n5_ n6_ n7_ n8_ n9_ n10_ n11_
            (try clear hb)
            (try clear hb2)
            (try clear hk)
            (try clear hi)
            refine hK.out _ _ ⟨(blk_cell BK450.out 0).trans rfl, (blk_cell BK450.out 1).trans rfl, (blk_cell BK450.out 2).trans rfl, (blk_cell BK421.out 0).trans rfl, (blk_cell BK421.out 1).trans rfl, (blk_cell BK421.out 2).trans rfl, (blk_cell BK464.out 0).trans rfl, (blk_cell BK464.out 1).trans rfl, (blk_cell BK464.out 2).trans rfl, (blk_cell BK422.out 0).trans rfl, (blk_cell BK422.out 1).trans rfl, (blk_cell BK422.out 2).trans rfl, (by rw [hcv65H.out]; exact own_string (P := Try.prog) Try.underlying29 Try.underlying5 Try.underlying9 (Kd.own_of_R HO_5.out)), (by rw [hcv67H.out]; exact own_string (P := Try.prog) Try.underlying29 Try.underlying5 Try.underlying9 (Kd.own_of_R HO_7.out))⟩ (fun hHeld => ?_)
            clear hK K
            refine norm_ (a' := ?_) ?_ ?_
            rotate_left
            · show Act.put _ (some 69) _ = _
              simp only [Act.put, List.setIfInBounds_toArray, List.set_cons_zero, List.set_cons_succ, i64_w, i32_w]
              rfl
            first
              | (refine pure_ (i := 3) (N := some 70) (v := ?_) (a' := ?_) #[true, true, true, true, false, false, false, false, false, false, false, false, false, false, false, false, false, false, false, false, false, false, false, false, false, false, false, false, false, false] rfl rfl (any_of HT_.out (by kernel_rfl)) (fun _ _ _ h => h) (Or.inl ⟨by rfl, ?_⟩) ?_ ?_
                 rotate_left
                 · intro w'
                   go_simp
                   with_reducible rfl)
              | (refine take_ (i := 3) (N := some 70) (v := ?_) (a' := ?_) #[true, true, true, true, false, false, false, false, false, false, false, false, false, false, false, false, false, false, false, false, false, false, false, false, false, false, false, false, false, false] rfl rfl (take_ofW HT_.out HW_.out (by kernel_rfl)) (fun _ _ _ h => h) (Or.inl ⟨by rfl, ?_⟩) hHeld ?_ ?_
                 rotate_left
                 · rintro w' ⟨s0, s1, s2, s3, s4, s5, s6, s7, s8, s9, s10, s11, cv0_, cv1_⟩
                   rw [hcv65H.out] at cv0_; unfold X.cvS at cv0_; rw [hcv67H.out] at cv1_; unfold X.cvS at cv1_
                   go_simp
                   with_reducible rfl)
            rotate_left
            · simp only [Act.put, List.setIfInBounds_toArray, List.set_cons_zero, List.set_cons_succ, i64_w, i32_w]
              rfl
            first
              | (refine pure_ (i := 4) (N := some 71) (v := ?_) (a' := ?_) #[true, true, true, true, true, false, false, false, false, false, false, false, false, false, false, false, false, false, false, false, false, false, false, false, false, false, false, false, false, false] rfl rfl (any_of HT_.out (by kernel_rfl)) (fun _ _ _ h => h) (Or.inl ⟨by rfl, ?_⟩) ?_ ?_
                 rotate_left
                 · intro w'
                   go_simp
                   with_reducible rfl)
              | (refine take_ (i := 4) (N := some 71) (v := ?_) (a' := ?_) #[true, true, true, true, true, false, false, false, false, false, false, false, false, false, false, false, false, false, false, false, false, false, false, false, false, false, false, false, false, false] rfl rfl (take_ofW HT_.out HW_.out (by kernel_rfl)) (fun _ _ _ h => h) (Or.inl ⟨by rfl, ?_⟩) hHeld ?_ ?_
                 rotate_left
                 · rintro w' ⟨s0, s1, s2, s3, s4, s5, s6, s7, s8, s9, s10, s11, cv0_, cv1_⟩
                   rw [hcv65H.out] at cv0_; unfold X.cvS at cv0_; rw [hcv67H.out] at cv1_; unfold X.cvS at cv1_
                   go_simp
                   with_reducible rfl)
            rotate_left
            · simp only [Act.put, List.setIfInBounds_toArray, List.set_cons_zero, List.set_cons_succ, i64_w, i32_w]
              rfl
            first
              | (refine pure_ (i := 5) (N := some 72) (v := ?_) (a' := ?_) #[true, true, true, true, true, true, false, false, false, false, false, false, false, false, false, false, false, false, false, false, false, false, false, false, false, false, false, false, false, false] rfl rfl (any_of HT_.out (by kernel_rfl)) (fun _ _ _ h => h) (Or.inl ⟨by rfl, ?_⟩) ?_ ?_
                 rotate_left
                 · intro w'
                   go_simp
                   with_reducible rfl)
              | (refine take_ (i := 5) (N := some 72) (v := ?_) (a' := ?_) #[true, true, true, true, true, true, false, false, false, false, false, false, false, false, false, false, false, false, false, false, false, false, false, false, false, false, false, false, false, false] rfl rfl (take_ofW HT_.out HW_.out (by kernel_rfl)) (fun _ _ _ h => h) (Or.inl ⟨by rfl, ?_⟩) hHeld ?_ ?_
                 rotate_left
                 · rintro w' ⟨s0, s1, s2, s3, s4, s5, s6, s7, s8, s9, s10, s11, cv0_, cv1_⟩
                   rw [hcv65H.out] at cv0_; unfold X.cvS at cv0_; rw [hcv67H.out] at cv1_; unfold X.cvS at cv1_
                   go_simp
                   with_reducible rfl)
            rotate_left
            · simp only [Act.put, List.setIfInBounds_toArray, List.set_cons_zero, List.set_cons_succ, i64_w, i32_w]
              rfl
            first
              | (refine pure_ (i := 6) (N := some 73) (v := ?_) (a' := ?_) #[true, true, true, true, true, true, true, false, false, false, false, false, false, false, false, false, false, false, false, false, false, false, false, false, false, false, false, false, false, false] rfl rfl (any_of HT_.out (by kernel_rfl)) (fun _ _ _ h => h) (Or.inl ⟨by rfl, ?_⟩) ?_ ?_
                 rotate_left
                 · intro w'
                   go_simp
                   with_reducible rfl)
              | (refine take_ (i := 6) (N := some 73) (v := ?_) (a' := ?_) #[true, true, true, true, true, true, true, false, false, false, false, false, false, false, false, false, false, false, false, false, false, false, false, false, false, false, false, false, false, false] rfl rfl (take_ofW HT_.out HW_.out (by kernel_rfl)) (fun _ _ _ h => h) (Or.inl ⟨by rfl, ?_⟩) hHeld ?_ ?_
                 rotate_left
                 · rintro w' ⟨s0, s1, s2, s3, s4, s5, s6, s7, s8, s9, s10, s11, cv0_, cv1_⟩
                   rw [hcv65H.out] at cv0_; unfold X.cvS at cv0_; rw [hcv67H.out] at cv1_; unfold X.cvS at cv1_
                   go_simp
                   with_reducible rfl)
            rotate_left
            · simp only [Act.put, List.setIfInBounds_toArray, List.set_cons_zero, List.set_cons_succ, i64_w, i32_w]
              rfl
            first
              | (refine pure_ (i := 7) (N := some 74) (v := ?_) (a' := ?_) #[true, true, true, true, true, true, true, true, false, false, false, false, false, false, false, false, false, false, false, false, false, false, false, false, false, false, false, false, false, false] rfl rfl (any_of HT_.out (by kernel_rfl)) (fun _ _ _ h => h) (Or.inl ⟨by rfl, ?_⟩) ?_ ?_
                 rotate_left
                 · intro w'
                   go_simp
                   with_reducible rfl)
              | (refine take_ (i := 7) (N := some 74) (v := ?_) (a' := ?_) #[true, true, true, true, true, true, true, true, false, false, false, false, false, false, false, false, false, false, false, false, false, false, false, false, false, false, false, false, false, false] rfl rfl (take_ofW HT_.out HW_.out (by kernel_rfl)) (fun _ _ _ h => h) (Or.inl ⟨by rfl, ?_⟩) hHeld ?_ ?_
                 rotate_left
                 · rintro w' ⟨s0, s1, s2, s3, s4, s5, s6, s7, s8, s9, s10, s11, cv0_, cv1_⟩
                   rw [hcv65H.out] at cv0_; unfold X.cvS at cv0_; rw [hcv67H.out] at cv1_; unfold X.cvS at cv1_
                   go_simp
                   with_reducible rfl)
            rotate_left
            · simp only [Act.put, List.setIfInBounds_toArray, List.set_cons_zero, List.set_cons_succ, i64_w, i32_w]
              rfl
            first
              | (refine pure_ (i := 8) (N := some 75) (v := ?_) (a' := ?_) #[true, true, true, true, true, true, true, true, true, false, false, false, false, false, false, false, false, false, false, false, false, false, false, false, false, false, false, false, false, false] rfl rfl (any_of HT_.out (by kernel_rfl)) (fun _ _ _ h => h) (Or.inl ⟨by rfl, ?_⟩) ?_ ?_
                 rotate_left
                 · intro w'
                   go_simp
                   with_reducible rfl)
              | (refine take_ (i := 8) (N := some 75) (v := ?_) (a' := ?_) #[true, true, true, true, true, true, true, true, true, false, false, false, false, false, false, false, false, false, false, false, false, false, false, false, false, false, false, false, false, false] rfl rfl (take_ofW HT_.out HW_.out (by kernel_rfl)) (fun _ _ _ h => h) (Or.inl ⟨by rfl, ?_⟩) hHeld ?_ ?_
                 rotate_left
                 · rintro w' ⟨s0, s1, s2, s3, s4, s5, s6, s7, s8, s9, s10, s11, cv0_, cv1_⟩
                   rw [hcv65H.out] at cv0_; unfold X.cvS at cv0_; rw [hcv67H.out] at cv1_; unfold X.cvS at cv1_
                   go_simp
                   with_reducible rfl)
            rotate_left
            · simp only [Act.put, List.setIfInBounds_toArray, List.set_cons_zero, List.set_cons_succ, i64_w, i32_w]
              rfl
            first
              | (refine pure_ (i := 9) (N := some 76) (v := ?_) (a' := ?_) #[true, true, true, true, true, true, true, true, true, true, false, false, false, false, false, false, false, false, false, false, false, false, false, false, false, false, false, false, false, false] rfl rfl (any_of HT_.out (by kernel_rfl)) (fun _ _ _ h => h) (Or.inl ⟨by rfl, ?_⟩) ?_ ?_
                 rotate_left
                 · intro w'
                   go_simp
                   with_reducible rfl)
              | (refine take_ (i := 9) (N := some 76) (v := ?_) (a' := ?_) #[true, true, true, true, true, true, true, true, true, true, false, false, false, false, false, false, false, false, false, false, false, false, false, false, false, false, false, false, false, false] rfl rfl (take_ofW HT_.out HW_.out (by kernel_rfl)) (fun _ _ _ h => h) (Or.inl ⟨by rfl, ?_⟩) hHeld ?_ ?_
                 rotate_left
                 · rintro w' ⟨s0, s1, s2, s3, s4, s5, s6, s7, s8, s9, s10, s11, cv0_, cv1_⟩
                   rw [hcv65H.out] at cv0_; unfold X.cvS at cv0_; rw [hcv67H.out] at cv1_; unfold X.cvS at cv1_
                   go_simp
                   with_reducible rfl)
            rotate_left
            · simp only [Act.put, List.setIfInBounds_toArray, List.set_cons_zero, List.set_cons_succ, i64_w, i32_w]
              rfl
            first
              | (refine pure_ (i := 10) (N := some 77) (v := ?_) (a' := ?_) #[true, true, true, true, true, true, true, true, true, true, true, false, false, false, false, false, false, false, false, false, false, false, false, false, false, false, false, false, false, false] rfl rfl (any_of HT_.out (by kernel_rfl)) (fun _ _ _ h => h) (Or.inl ⟨by rfl, ?_⟩) ?_ ?_
                 rotate_left
                 · intro w'
                   go_simp
                   with_reducible rfl)
              | (refine take_ (i := 10) (N := some 77) (v := ?_) (a' := ?_) #[true, true, true, true, true, true, true, true, true, true, true, false, false, false, false, false, false, false, false, false, false, false, false, false, false, false, false, false, false, false] rfl rfl (take_ofW HT_.out HW_.out (by kernel_rfl)) (fun _ _ _ h => h) (Or.inl ⟨by rfl, ?_⟩) hHeld ?_ ?_
                 rotate_left
                 · rintro w' ⟨s0, s1, s2, s3, s4, s5, s6, s7, s8, s9, s10, s11, cv0_, cv1_⟩
                   rw [hcv65H.out] at cv0_; unfold X.cvS at cv0_; rw [hcv67H.out] at cv1_; unfold X.cvS at cv1_
                   go_simp
                   with_reducible rfl)
            rotate_left
            · simp only [Act.put, List.setIfInBounds_toArray, List.set_cons_zero, List.set_cons_succ, i64_w, i32_w]
              rfl
            first
              | (refine pure_ (i := 11) (N := some 78) (v := ?_) (a' := ?_) #[true, true, true, true, true, true, true, true, true, true, true, true, false, false, false, false, false, false, false, false, false, false, false, false, false, false, false, false, false, false] rfl rfl (any_of HT_.out (by kernel_rfl)) (fun _ _ _ h => h) (Or.inl ⟨by rfl, ?_⟩) ?_ ?_
                 rotate_left
                 · intro w'
                   go_simp
                   with_reducible rfl)
              | (refine take_ (i := 11) (N := some 78) (v := ?_) (a' := ?_) #[true, true, true, true, true, true, true, true, true, true, true, true, false, false, false, false, false, false, false, false, false, false, false, false, false, false, false, false, false, false] rfl rfl (take_ofW HT_.out HW_.out (by kernel_rfl)) (fun _ _ _ h => h) (Or.inl ⟨by rfl, ?_⟩) hHeld ?_ ?_
                 rotate_left
                 · rintro w' ⟨s0, s1, s2, s3, s4, s5, s6, s7, s8, s9, s10, s11, cv0_, cv1_⟩
                   rw [hcv65H.out] at cv0_; unfold X.cvS at cv0_; rw [hcv67H.out] at cv1_; unfold X.cvS at cv1_
                   go_simp
                   with_reducible rfl)
            rotate_left
            · simp only [Act.put, List.setIfInBounds_toArray, List.set_cons_zero, List.set_cons_succ, i64_w, i32_w]
              rfl
            first
              | (refine pure_ (i := 12) (N := some 79) (v := ?_) (a' := ?_) #[true, true, true, true, true, true, true, true, true, true, true, true, true, false, false, false, false, false, false, false, false, false, false, false, false, false, false, false, false, false] rfl rfl (any_of HT_.out (by kernel_rfl)) (fun _ _ _ h => h) (Or.inl ⟨by rfl, ?_⟩) ?_ ?_
                 rotate_left
                 · intro w'
                   go_simp
                   with_reducible rfl)
              | (refine take_ (i := 12) (N := some 79) (v := ?_) (a' := ?_) #[true, true, true, true, true, true, true, true, true, true, true, true, true, false, false, false, false, false, false, false, false, false, false, false, false, false, false, false, false, false] rfl rfl (take_ofW HT_.out HW_.out (by kernel_rfl)) (fun _ _ _ h => h) (Or.inl ⟨by rfl, ?_⟩) hHeld ?_ ?_
                 rotate_left
                 · rintro w' ⟨s0, s1, s2, s3, s4, s5, s6, s7, s8, s9, s10, s11, cv0_, cv1_⟩
                   rw [hcv65H.out] at cv0_; unfold X.cvS at cv0_; rw [hcv67H.out] at cv1_; unfold X.cvS at cv1_
                   go_simp
                   with_reducible rfl)
            rotate_left
            · simp only [Act.put, List.setIfInBounds_toArray, List.set_cons_zero, List.set_cons_succ, i64_w, i32_w]
              rfl
            first
              | (refine pure_ (i := 13) (N := some 80) (v := ?_) (a' := ?_) #[true, true, true, true, true, true, true, true, true, true, true, true, true, true, false, false, false, false, false, false, false, false, false, false, false, false, false, false, false, false] rfl rfl (any_of HT_.out (by kernel_rfl)) (fun _ _ _ h => h) (Or.inl ⟨by rfl, ?_⟩) ?_ ?_
                 rotate_left
                 · intro w'
                   go_simp
                   with_reducible rfl)
              | (refine take_ (i := 13) (N := some 80) (v := ?_) (a' := ?_) #[true, true, true, true, true, true, true, true, true, true, true, true, true, true, false, false, false, false, false, false, false, false, false, false, false, false, false, false, false, false] rfl rfl (take_ofW HT_.out HW_.out (by kernel_rfl)) (fun _ _ _ h => h) (Or.inl ⟨by rfl, ?_⟩) hHeld ?_ ?_
                 rotate_left
                 · rintro w' ⟨s0, s1, s2, s3, s4, s5, s6, s7, s8, s9, s10, s11, cv0_, cv1_⟩
                   rw [hcv65H.out] at cv0_; unfold X.cvS at cv0_; rw [hcv67H.out] at cv1_; unfold X.cvS at cv1_
                   go_simp
                   with_reducible rfl)
            rotate_left
            · simp only [Act.put, List.setIfInBounds_toArray, List.set_cons_zero, List.set_cons_succ, i64_w, i32_w]
              rfl
            refine take_ (i := 14) (N := some 81) (v := ?_) (a' := ?_) #[true, true, true, true, true, true, true, true, true, true, true, true, true, true, true, false, false, false, false, false, false, false, false, false, false, false, false, false, false, false] rfl rfl (take_ofW HT_.out HW_.out (by kernel_rfl)) (fun _ _ _ h => h) (Or.inl ⟨by rfl, ?_⟩) hHeld ?_ ?_
            rotate_left
            · rintro w' ⟨s0, s1, s2, s3, s4, s5, s6, s7, s8, s9, s10, s11, cv0_, cv1_⟩
              go_simp
              with_reducible rfl
            rotate_left
            · simp only [Act.put, List.setIfInBounds_toArray, List.set_cons_zero, List.set_cons_succ, i64_w, i32_w]
              rfl
            refine take_ (i := 15) (N := some 82) (v := ?_) (a' := ?_) #[true, true, true, true, true, true, true, true, true, true, true, true, true, true, true, true, false, false, false, false, false, false, false, false, false, false, false, false, false, false] rfl rfl (take_ofW HT_.out HW_.out (by kernel_rfl)) (fun _ _ _ h => h) (Or.inl ⟨by rfl, ?_⟩) hHeld ?_ ?_
            rotate_left
            · rintro w' ⟨s0, s1, s2, s3, s4, s5, s6, s7, s8, s9, s10, s11, cv0_, cv1_⟩
              go_simp
              with_reducible rfl
            rotate_left
            · simp only [Act.put, List.setIfInBounds_toArray, List.set_cons_zero, List.set_cons_succ, i64_w, i32_w]
              rfl
            refine one_ (i := 16) (N := some 83) #[true, true, true, true, true, true, true, true, true, true, true, true, true, true, true, true, true, false, false, false, false, false, false, false, false, false, false, false, false, false] rfl rfl (one_of HT_.out (by kernel_rfl)) (by decide) (fun K hK => ?_)
            refine goes_ Try.func15 (by kernel_rfl) rfl #[.agg #[.int .u64 t455, .slice Ao57 t456.length co57, .slice Ao59 t459.length co59], .agg #[.int .u64 a1_0, .slice A1_1 l1_1.length c1_1, .slice A1_2 l1_2.length c1_2]] (by rfl) rfl rfl (by (try simp only [List.map_toArray, List.map_cons, List.map_nil]); first | done | rfl | (simp only [List.length_drop, List.length_take]; rfl)) ?_
            with_reducible refine (undercroftref03_Same.calls kj20 t455 _ _ t456 _ _ t459 a1_0 _ _ l1_1 _ _ l1_2 true _ ?side1 ?side2 ?side3 ?side4 ?side5 ?side6 ?side7 ?side8 A48.out).mono ?_
            (case side1 => repeat (first | exact (Kd.S_reads' HO458.out).2.2 | (with_reducible refine Kd.C_alloc ?_ _) | (with_reducible refine Kd.C_drewN ?_ _) | (with_reducible refine Kd.C_drew ?_)))
            (case side2 => exact (Kd.S_reads' HO458.out).2.1)
            (case side3 => repeat (first | exact (Kd.R_reads' HO461.out).2.2 | (with_reducible refine Kd.C_alloc ?_ _) | (with_reducible refine Kd.C_drewN ?_ _) | (with_reducible refine Kd.C_drew ?_)))
            (case side4 => exact (Kd.R_reads' HO461.out).2.1)
            (case side5 => repeat (first | exact (Kd.C_below HR1_1.out HB.out) | (with_reducible refine Kd.C_alloc ?_ _) | (with_reducible refine Kd.C_drewN ?_ _) | (with_reducible refine Kd.C_drew ?_)))
            (case side6 => exact HC1_1.out)
            (case side7 => repeat (first | exact (Kd.C_below HR1_2.out HB.out) | (with_reducible refine Kd.C_alloc ?_ _) | (with_reducible refine Kd.C_drewN ?_ _) | (with_reducible refine Kd.C_drew ?_)))
            (case side8 => exact HC1_2.out)
            rintro e w64 ⟨rfl, hb⟩
            refine ⟨_, rfl, ?_⟩
            have n0_ := Aside0.mk (Kd.R_below (by (with_reducible repeat (first | apply Kd.R_alloc | apply Kd.R_drewN | apply Kd.R_drew)); exact HO_5.out) hb)
            have n1_ := Aside0.mk (Kd.R_below (by (with_reducible repeat (first | apply Kd.R_alloc | apply Kd.R_drewN | apply Kd.R_drew)); exact HO_7.out) hb)
            have n2_ := Aside0.mk (Kd.R_below (by (with_reducible repeat (first | apply Kd.R_alloc | apply Kd.R_drewN | apply Kd.R_drew)); exact HO_9.out) hb)
            have n3_ := Aside0.mk (Kd.S_below (by (with_reducible repeat (first | apply Kd.S_alloc | apply Kd.S_drewN | apply Kd.S_drew)); exact HO_451001.out) hb)
            have n4_ := Aside0.mk (Kd.R_below (by (with_reducible repeat (first | apply Kd.R_alloc | apply Kd.R_drewN | apply Kd.R_drew)); exact HO_451002.out) hb)
            have n5_ := Aside0.mk (Kd.S_below (by (with_reducible repeat (first | apply Kd.S_alloc | apply Kd.S_drewN | apply Kd.S_drew)); exact HO458.out) hb)
            have n6_ := Aside0.mk (Kd.R_below (by (with_reducible repeat (first | apply Kd.R_alloc | apply Kd.R_drewN | apply Kd.R_drew)); exact HO461.out) hb)
            have n7_ := Aside0.mk (blk_below (g := gb421) (o := .cells #[.int .u64 a0_0, .slice A0_1 l0_1.length c0_1, .slice A0_2 l0_2.length c0_2] 26 (0, 0)) (by (with_reducible repeat (first | refine blk_drewN ?_ _ | refine blk_drew ?_ | refine blk_alloc ?_ _)); exact BK421.out) hb)
            have n8_ := Aside0.mk (blk_below (g := gb422) (o := .cells #[.int .u64 a1_0, .slice A1_1 l1_1.length c1_1, .slice A1_2 l1_2.length c1_2] 26 (0, 0)) (by (with_reducible repeat (first | refine blk_drewN ?_ _ | refine blk_drew ?_ | refine blk_alloc ?_ _)); exact BK422.out) hb)
            have n9_ := Aside0.mk (blk_below (g := gb450) (o := .cells #[.int .u64 t441, .slice Ao36 t442.length co36, .slice Ao37 t445.length co37] 26 (0, 0)) (by (with_reducible repeat (first | refine blk_drewN ?_ _ | refine blk_drew ?_ | refine blk_alloc ?_ _)); exact BK450.out) hb)
            have n10_ := Aside0.mk (blk_below (g := gb464) (o := .cells #[.int .u64 t455, .slice Ao57 t456.length co57, .slice Ao59 t459.length co59] 26 (0, 0)) (by (with_reducible repeat (first | refine blk_drewN ?_ _ | refine blk_drew ?_ | refine blk_alloc ?_ _)); exact BK464.out) hb)
            have n11_ := Aside0.mk (below_step (by repeat (first | (with_reducible first | exact HB.out | apply below_alloc | apply pw_below_drewN | apply below_drew1 | refine below_set ?_ GE421.out | refine below_set ?_ GE422.out | refine below_set ?_ GE450.out | refine below_set ?_ GE464.out) | exact HB.out)) hb)
            clear HO_5
            clear HO_7
            clear HO_9
            clear HO_451001
            clear HO_451002
            clear HO458
            clear HO461
            clear BK421
            clear BK422
            clear BK450
            clear BK464
            clear HB
            have HO_5 := n0_
            have HO_7 := n1_
            have HO_9 := n2_
            have HO_451001 := n3_
            have HO_451002 := n4_
            have HO458 := n5_
            have HO461 := n6_
            have BK421 := n7_
            have BK422 := n8_
            have BK450 := n9_
            have BK464 := n10_
            have HB := n11_
            clear n0_ n1_ n2_ n3_ n4_ n5_ n6_ n7_ n8_ n9_ n10_ n11_
            (try clear hb)
            (try clear hb2)
            (try clear hk)
            (try clear hi)
            refine hK.out _ _ ⟨(blk_cell BK450.out 0).trans rfl, (blk_cell BK450.out 1).trans rfl, (blk_cell BK450.out 2).trans rfl, (blk_cell BK421.out 0).trans rfl, (blk_cell BK421.out 1).trans rfl, (blk_cell BK421.out 2).trans rfl, (blk_cell BK464.out 0).trans rfl, (blk_cell BK464.out 1).trans rfl, (blk_cell BK464.out 2).trans rfl, (blk_cell BK422.out 0).trans rfl, (blk_cell BK422.out 1).trans rfl, (blk_cell BK422.out 2).trans rfl, (by rw [hcv65H.out]; exact own_string (P := Try.prog) Try.underlying29 Try.underlying5 Try.underlying9 (Kd.own_of_R HO_5.out)), (by rw [hcv67H.out]; exact own_string (P := Try.prog) Try.underlying29 Try.underlying5 Try.underlying9 (Kd.own_of_R HO_7.out))⟩ (fun hHeld => ?_)
            clear hK K
            refine norm_ (a' := ?_) ?_ ?_
            rotate_left
            · show Act.put _ (some 83) _ = _
              simp only [Act.put, List.setIfInBounds_toArray, List.set_cons_zero, List.set_cons_succ, i64_w, i32_w]
              rfl
            first
              | (refine pure_ (i := 17) (N := some 84) (v := ?_) (a' := ?_) #[true, true, true, true, true, true, true, true, true, true, true, true, true, true, true, true, true, true, false, false, false, false, false, false, false, false, false, false, false, false] rfl rfl (any_of HT_.out (by kernel_rfl)) (fun _ _ _ h => h) (Or.inl ⟨by rfl, ?_⟩) ?_ ?_
                 rotate_left
                 · intro w'
                   go_simp
                   with_reducible rfl)
              | (refine take_ (i := 17) (N := some 84) (v := ?_) (a' := ?_) #[true, true, true, true, true, true, true, true, true, true, true, true, true, true, true, true, true, true, false, false, false, false, false, false, false, false, false, false, false, false] rfl rfl (take_ofW HT_.out HW_.out (by kernel_rfl)) (fun _ _ _ h => h) (Or.inl ⟨by rfl, ?_⟩) hHeld ?_ ?_
                 rotate_left
                 · rintro w' ⟨s0, s1, s2, s3, s4, s5, s6, s7, s8, s9, s10, s11, cv0_, cv1_⟩
                   rw [hcv65H.out] at cv0_; unfold X.cvS at cv0_; rw [hcv67H.out] at cv1_; unfold X.cvS at cv1_
                   go_simp
                   with_reducible rfl)
            rotate_left
            · simp only [Act.put, List.setIfInBounds_toArray, List.set_cons_zero, List.set_cons_succ, i64_w, i32_w]
              rfl
            first
              | (refine pure_ (i := 18) (N := some 85) (v := ?_) (a' := ?_) #[true, true, true, true, true, true, true, true, true, true, true, true, true, true, true, true, true, true, true, false, false, false, false, false, false, false, false, false, false, false] rfl rfl (any_of HT_.out (by kernel_rfl)) (fun _ _ _ h => h) (Or.inl ⟨by rfl, ?_⟩) ?_ ?_
                 rotate_left
                 · intro w'
                   go_simp
                   with_reducible rfl)
              | (refine take_ (i := 18) (N := some 85) (v := ?_) (a' := ?_) #[true, true, true, true, true, true, true, true, true, true, true, true, true, true, true, true, true, true, true, false, false, false, false, false, false, false, false, false, false, false] rfl rfl (take_ofW HT_.out HW_.out (by kernel_rfl)) (fun _ _ _ h => h) (Or.inl ⟨by rfl, ?_⟩) hHeld ?_ ?_
                 rotate_left
                 · rintro w' ⟨s0, s1, s2, s3, s4, s5, s6, s7, s8, s9, s10, s11, cv0_, cv1_⟩
                   rw [hcv65H.out] at cv0_; unfold X.cvS at cv0_; rw [hcv67H.out] at cv1_; unfold X.cvS at cv1_
                   go_simp
                   with_reducible rfl)
            rotate_left
            · simp only [Act.put, List.setIfInBounds_toArray, List.set_cons_zero, List.set_cons_succ, i64_w, i32_w]
              rfl
            first
              | (refine pure_ (i := 19) (N := some 86) (v := ?_) (a' := ?_) #[true, true, true, true, true, true, true, true, true, true, true, true, true, true, true, true, true, true, true, true, false, false, false, false, false, false, false, false, false, false] rfl rfl (any_of HT_.out (by kernel_rfl)) (fun _ _ _ h => h) (Or.inl ⟨by rfl, ?_⟩) ?_ ?_
                 rotate_left
                 · intro w'
                   go_simp
                   with_reducible rfl)
              | (refine take_ (i := 19) (N := some 86) (v := ?_) (a' := ?_) #[true, true, true, true, true, true, true, true, true, true, true, true, true, true, true, true, true, true, true, true, false, false, false, false, false, false, false, false, false, false] rfl rfl (take_ofW HT_.out HW_.out (by kernel_rfl)) (fun _ _ _ h => h) (Or.inl ⟨by rfl, ?_⟩) hHeld ?_ ?_
                 rotate_left
                 · rintro w' ⟨s0, s1, s2, s3, s4, s5, s6, s7, s8, s9, s10, s11, cv0_, cv1_⟩
                   rw [hcv65H.out] at cv0_; unfold X.cvS at cv0_; rw [hcv67H.out] at cv1_; unfold X.cvS at cv1_
                   go_simp
                   with_reducible rfl)
            rotate_left
            · simp only [Act.put, List.setIfInBounds_toArray, List.set_cons_zero, List.set_cons_succ, i64_w, i32_w]
              rfl
            first
              | (refine pure_ (i := 20) (N := some 87) (v := ?_) (a' := ?_) #[true, true, true, true, true, true, true, true, true, true, true, true, true, true, true, true, true, true, true, true, true, false, false, false, false, false, false, false, false, false] rfl rfl (any_of HT_.out (by kernel_rfl)) (fun _ _ _ h => h) (Or.inl ⟨by rfl, ?_⟩) ?_ ?_
                 rotate_left
                 · intro w'
                   go_simp
                   with_reducible rfl)
              | (refine take_ (i := 20) (N := some 87) (v := ?_) (a' := ?_) #[true, true, true, true, true, true, true, true, true, true, true, true, true, true, true, true, true, true, true, true, true, false, false, false, false, false, false, false, false, false] rfl rfl (take_ofW HT_.out HW_.out (by kernel_rfl)) (fun _ _ _ h => h) (Or.inl ⟨by rfl, ?_⟩) hHeld ?_ ?_
                 rotate_left
                 · rintro w' ⟨s0, s1, s2, s3, s4, s5, s6, s7, s8, s9, s10, s11, cv0_, cv1_⟩
                   rw [hcv65H.out] at cv0_; unfold X.cvS at cv0_; rw [hcv67H.out] at cv1_; unfold X.cvS at cv1_
                   go_simp
                   with_reducible rfl)
            rotate_left
            · simp only [Act.put, List.setIfInBounds_toArray, List.set_cons_zero, List.set_cons_succ, i64_w, i32_w]
              rfl
            first
              | (refine pure_ (i := 21) (N := some 88) (v := ?_) (a' := ?_) #[true, true, true, true, true, true, true, true, true, true, true, true, true, true, true, true, true, true, true, true, true, true, false, false, false, false, false, false, false, false] rfl rfl (any_of HT_.out (by kernel_rfl)) (fun _ _ _ h => h) (Or.inl ⟨by rfl, ?_⟩) ?_ ?_
                 rotate_left
                 · intro w'
                   go_simp
                   with_reducible rfl)
              | (refine take_ (i := 21) (N := some 88) (v := ?_) (a' := ?_) #[true, true, true, true, true, true, true, true, true, true, true, true, true, true, true, true, true, true, true, true, true, true, false, false, false, false, false, false, false, false] rfl rfl (take_ofW HT_.out HW_.out (by kernel_rfl)) (fun _ _ _ h => h) (Or.inl ⟨by rfl, ?_⟩) hHeld ?_ ?_
                 rotate_left
                 · rintro w' ⟨s0, s1, s2, s3, s4, s5, s6, s7, s8, s9, s10, s11, cv0_, cv1_⟩
                   rw [hcv65H.out] at cv0_; unfold X.cvS at cv0_; rw [hcv67H.out] at cv1_; unfold X.cvS at cv1_
                   go_simp
                   with_reducible rfl)
            rotate_left
            · simp only [Act.put, List.setIfInBounds_toArray, List.set_cons_zero, List.set_cons_succ, i64_w, i32_w]
              rfl
            first
              | (refine pure_ (i := 22) (N := some 89) (v := ?_) (a' := ?_) #[true, true, true, true, true, true, true, true, true, true, true, true, true, true, true, true, true, true, true, true, true, true, true, false, false, false, false, false, false, false] rfl rfl (any_of HT_.out (by kernel_rfl)) (fun _ _ _ h => h) (Or.inl ⟨by rfl, ?_⟩) ?_ ?_
                 rotate_left
                 · intro w'
                   go_simp
                   with_reducible rfl)
              | (refine take_ (i := 22) (N := some 89) (v := ?_) (a' := ?_) #[true, true, true, true, true, true, true, true, true, true, true, true, true, true, true, true, true, true, true, true, true, true, true, false, false, false, false, false, false, false] rfl rfl (take_ofW HT_.out HW_.out (by kernel_rfl)) (fun _ _ _ h => h) (Or.inl ⟨by rfl, ?_⟩) hHeld ?_ ?_
                 rotate_left
                 · rintro w' ⟨s0, s1, s2, s3, s4, s5, s6, s7, s8, s9, s10, s11, cv0_, cv1_⟩
                   rw [hcv65H.out] at cv0_; unfold X.cvS at cv0_; rw [hcv67H.out] at cv1_; unfold X.cvS at cv1_
                   go_simp
                   with_reducible rfl)
            rotate_left
            · simp only [Act.put, List.setIfInBounds_toArray, List.set_cons_zero, List.set_cons_succ, i64_w, i32_w]
              rfl
            first
              | (refine pure_ (i := 23) (N := some 90) (v := ?_) (a' := ?_) #[true, true, true, true, true, true, true, true, true, true, true, true, true, true, true, true, true, true, true, true, true, true, true, true, false, false, false, false, false, false] rfl rfl (any_of HT_.out (by kernel_rfl)) (fun _ _ _ h => h) (Or.inl ⟨by rfl, ?_⟩) ?_ ?_
                 rotate_left
                 · intro w'
                   go_simp
                   with_reducible rfl)
              | (refine take_ (i := 23) (N := some 90) (v := ?_) (a' := ?_) #[true, true, true, true, true, true, true, true, true, true, true, true, true, true, true, true, true, true, true, true, true, true, true, true, false, false, false, false, false, false] rfl rfl (take_ofW HT_.out HW_.out (by kernel_rfl)) (fun _ _ _ h => h) (Or.inl ⟨by rfl, ?_⟩) hHeld ?_ ?_
                 rotate_left
                 · rintro w' ⟨s0, s1, s2, s3, s4, s5, s6, s7, s8, s9, s10, s11, cv0_, cv1_⟩
                   rw [hcv65H.out] at cv0_; unfold X.cvS at cv0_; rw [hcv67H.out] at cv1_; unfold X.cvS at cv1_
                   go_simp
                   with_reducible rfl)
            rotate_left
            · simp only [Act.put, List.setIfInBounds_toArray, List.set_cons_zero, List.set_cons_succ, i64_w, i32_w]
              rfl
            refine take_ (i := 24) (N := some 91) (v := ?_) (a' := ?_) #[true, true, true, true, true, true, true, true, true, true, true, true, true, true, true, true, true, true, true, true, true, true, true, true, true, false, false, false, false, false] rfl rfl (take_ofW HT_.out HW_.out (by kernel_rfl)) (fun _ _ _ h => h) (Or.inl ⟨by rfl, ?_⟩) hHeld ?_ ?_
            rotate_left
            · rintro w' ⟨s0, s1, s2, s3, s4, s5, s6, s7, s8, s9, s10, s11, cv0_, cv1_⟩
              go_simp
              with_reducible rfl
            rotate_left
            · simp only [Act.put, List.setIfInBounds_toArray, List.set_cons_zero, List.set_cons_succ, i64_w, i32_w]
              rfl
            refine take_ (i := 25) (N := some 92) (v := ?_) (a' := ?_) #[true, true, true, true, true, true, true, true, true, true, true, true, true, true, true, true, true, true, true, true, true, true, true, true, true, true, false, false, false, false] rfl rfl (take_ofW HT_.out HW_.out (by kernel_rfl)) (fun _ _ _ h => h) (Or.inl ⟨by rfl, ?_⟩) hHeld ?_ ?_
            rotate_left
            · rintro w' ⟨s0, s1, s2, s3, s4, s5, s6, s7, s8, s9, s10, s11, cv0_, cv1_⟩
              go_simp
              with_reducible rfl
            rotate_left
            · simp only [Act.put, List.setIfInBounds_toArray, List.set_cons_zero, List.set_cons_succ, i64_w, i32_w]
              rfl
            refine one_ (i := 26) (N := some 93) #[true, true, true, true, true, true, true, true, true, true, true, true, true, true, true, true, true, true, true, true, true, true, true, true, true, true, true, false, false, false] rfl rfl (one_of HT_.out (by kernel_rfl)) (by decide) (fun K hK => ?_)
            refine goes_ Try.func15 (by kernel_rfl) rfl #[.agg #[.int .u64 a0_0, .slice A0_1 l0_1.length c0_1, .slice A0_2 l0_2.length c0_2], .agg #[.int .u64 a1_0, .slice A1_1 l1_1.length c1_1, .slice A1_2 l1_2.length c1_2]] (by rfl) rfl rfl (by (try simp only [List.map_toArray, List.map_cons, List.map_nil]); first | done | rfl | (simp only [List.length_drop, List.length_take]; rfl)) ?_
            with_reducible refine (undercroftref03_Same.calls kj20 a0_0 _ _ l0_1 _ _ l0_2 a1_0 _ _ l1_1 _ _ l1_2 t467 _ ?side1 ?side2 ?side3 ?side4 ?side5 ?side6 ?side7 ?side8 A50.out).mono ?_
            (case side1 => repeat (first | exact (Kd.C_below HR0_1.out HB.out) | (with_reducible refine Kd.C_alloc ?_ _) | (with_reducible refine Kd.C_drewN ?_ _) | (with_reducible refine Kd.C_drew ?_)))
            (case side2 => exact HC0_1.out)
            (case side3 => repeat (first | exact (Kd.C_below HR0_2.out HB.out) | (with_reducible refine Kd.C_alloc ?_ _) | (with_reducible refine Kd.C_drewN ?_ _) | (with_reducible refine Kd.C_drew ?_)))
            (case side4 => exact HC0_2.out)
            (case side5 => repeat (first | exact (Kd.C_below HR1_1.out HB.out) | (with_reducible refine Kd.C_alloc ?_ _) | (with_reducible refine Kd.C_drewN ?_ _) | (with_reducible refine Kd.C_drew ?_)))
            (case side6 => exact HC1_1.out)
            (case side7 => repeat (first | exact (Kd.C_below HR1_2.out HB.out) | (with_reducible refine Kd.C_alloc ?_ _) | (with_reducible refine Kd.C_drewN ?_ _) | (with_reducible refine Kd.C_drew ?_)))
            (case side8 => exact HC1_2.out)
            rintro e w69 ⟨rfl, hb⟩
            refine ⟨_, rfl, ?_⟩
            have n0_ := Aside0.mk (Kd.R_below (by (with_reducible repeat (first | apply Kd.R_alloc | apply Kd.R_drewN | apply Kd.R_drew)); exact HO_5.out) hb)
            have n1_ := Aside0.mk (Kd.R_below (by (with_reducible repeat (first | apply Kd.R_alloc | apply Kd.R_drewN | apply Kd.R_drew)); exact HO_7.out) hb)
            have n2_ := Aside0.mk (Kd.R_below (by (with_reducible repeat (first | apply Kd.R_alloc | apply Kd.R_drewN | apply Kd.R_drew)); exact HO_9.out) hb)
            have n3_ := Aside0.mk (Kd.S_below (by (with_reducible repeat (first | apply Kd.S_alloc | apply Kd.S_drewN | apply Kd.S_drew)); exact HO_451001.out) hb)
            have n4_ := Aside0.mk (Kd.R_below (by (with_reducible repeat (first | apply Kd.R_alloc | apply Kd.R_drewN | apply Kd.R_drew)); exact HO_451002.out) hb)
            have n5_ := Aside0.mk (Kd.S_below (by (with_reducible repeat (first | apply Kd.S_alloc | apply Kd.S_drewN | apply Kd.S_drew)); exact HO458.out) hb)
            have n6_ := Aside0.mk (Kd.R_below (by (with_reducible repeat (first | apply Kd.R_alloc | apply Kd.R_drewN | apply Kd.R_drew)); exact HO461.out) hb)
            have n7_ := Aside0.mk (blk_below (g := gb421) (o := .cells #[.int .u64 a0_0, .slice A0_1 l0_1.length c0_1, .slice A0_2 l0_2.length c0_2] 26 (0, 0)) (by (with_reducible repeat (first | refine blk_drewN ?_ _ | refine blk_drew ?_ | refine blk_alloc ?_ _)); exact BK421.out) hb)
            have n8_ := Aside0.mk (blk_below (g := gb422) (o := .cells #[.int .u64 a1_0, .slice A1_1 l1_1.length c1_1, .slice A1_2 l1_2.length c1_2] 26 (0, 0)) (by (with_reducible repeat (first | refine blk_drewN ?_ _ | refine blk_drew ?_ | refine blk_alloc ?_ _)); exact BK422.out) hb)
            have n9_ := Aside0.mk (blk_below (g := gb450) (o := .cells #[.int .u64 t441, .slice Ao36 t442.length co36, .slice Ao37 t445.length co37] 26 (0, 0)) (by (with_reducible repeat (first | refine blk_drewN ?_ _ | refine blk_drew ?_ | refine blk_alloc ?_ _)); exact BK450.out) hb)
            have n10_ := Aside0.mk (blk_below (g := gb464) (o := .cells #[.int .u64 t455, .slice Ao57 t456.length co57, .slice Ao59 t459.length co59] 26 (0, 0)) (by (with_reducible repeat (first | refine blk_drewN ?_ _ | refine blk_drew ?_ | refine blk_alloc ?_ _)); exact BK464.out) hb)
            have n11_ := Aside0.mk (below_step (by repeat (first | (with_reducible first | exact HB.out | apply below_alloc | apply pw_below_drewN | apply below_drew1 | refine below_set ?_ GE421.out | refine below_set ?_ GE422.out | refine below_set ?_ GE450.out | refine below_set ?_ GE464.out) | exact HB.out)) hb)
            clear HO_5
            clear HO_7
            clear HO_9
            clear HO_451001
            clear HO_451002
            clear HO458
            clear HO461
            clear BK421
            clear BK422
            clear BK450
            clear BK464
            clear HB
            have HO_5 := n0_
            have HO_7 := n1_
            have HO_9 := n2_
            have HO_451001 := n3_
            have HO_451002 := n4_
            have HO458 := n5_
            have HO461 := n6_
            have BK421 := n7_
            have BK422 := n8_
            have BK450 := n9_
            have BK464 := n10_
            have HB := n11_
            clear n0_ n1_ n2_ n3_ n4_ n5_ n6_ n7_ n8_ n9_ n10_ n11_
            (try clear hb)
            (try clear hb2)
            (try clear hk)
            (try clear hi)
            refine hK.out _ _ ⟨(blk_cell BK450.out 0).trans rfl, (blk_cell BK450.out 1).trans rfl, (blk_cell BK450.out 2).trans rfl, (blk_cell BK421.out 0).trans rfl, (blk_cell BK421.out 1).trans rfl, (blk_cell BK421.out 2).trans rfl, (blk_cell BK464.out 0).trans rfl, (blk_cell BK464.out 1).trans rfl, (blk_cell BK464.out 2).trans rfl, (blk_cell BK422.out 0).trans rfl, (blk_cell BK422.out 1).trans rfl, (blk_cell BK422.out 2).trans rfl, (by rw [hcv65H.out]; exact own_string (P := Try.prog) Try.underlying29 Try.underlying5 Try.underlying9 (Kd.own_of_R HO_5.out)), (by rw [hcv67H.out]; exact own_string (P := Try.prog) Try.underlying29 Try.underlying5 Try.underlying9 (Kd.own_of_R HO_7.out))⟩ (fun hHeld => ?_)
            clear hK K
            refine norm_ (a' := ?_) ?_ ?_
            rotate_left
            · show Act.put _ (some 93) _ = _
              simp only [Act.put, List.setIfInBounds_toArray, List.set_cons_zero, List.set_cons_succ, i64_w, i32_w]
              rfl
            first
              | (refine pure_ (i := 27) (N := some 94) (v := ?_) (a' := ?_) #[true, true, true, true, true, true, true, true, true, true, true, true, true, true, true, true, true, true, true, true, true, true, true, true, true, true, true, true, false, false] rfl rfl (any_of HT_.out (by kernel_rfl)) (fun _ _ _ h => h) (Or.inl ⟨by rfl, ?_⟩) ?_ ?_
                 rotate_left
                 · intro w'
                   go_simp
                   with_reducible rfl)
              | (refine take_ (i := 27) (N := some 94) (v := ?_) (a' := ?_) #[true, true, true, true, true, true, true, true, true, true, true, true, true, true, true, true, true, true, true, true, true, true, true, true, true, true, true, true, false, false] rfl rfl (take_ofW HT_.out HW_.out (by kernel_rfl)) (fun _ _ _ h => h) (Or.inl ⟨by rfl, ?_⟩) hHeld ?_ ?_
                 rotate_left
                 · rintro w' ⟨s0, s1, s2, s3, s4, s5, s6, s7, s8, s9, s10, s11, cv0_, cv1_⟩
                   rw [hcv65H.out] at cv0_; unfold X.cvS at cv0_; rw [hcv67H.out] at cv1_; unfold X.cvS at cv1_
                   go_simp
                   with_reducible rfl)
            rotate_left
            · simp only [Act.put, List.setIfInBounds_toArray, List.set_cons_zero, List.set_cons_succ, i64_w, i32_w]
              rfl
            first
              | (refine pure_ (i := 28) (N := some 95) (v := ?_) (a' := ?_) #[true, true, true, true, true, true, true, true, true, true, true, true, true, true, true, true, true, true, true, true, true, true, true, true, true, true, true, true, true, false] rfl rfl (any_of HT_.out (by kernel_rfl)) (fun _ _ _ h => h) (Or.inl ⟨by rfl, ?_⟩) ?_ ?_
                 rotate_left
                 · intro w'
                   go_simp
                   with_reducible rfl)
              | (refine take_ (i := 28) (N := some 95) (v := ?_) (a' := ?_) #[true, true, true, true, true, true, true, true, true, true, true, true, true, true, true, true, true, true, true, true, true, true, true, true, true, true, true, true, true, false] rfl rfl (take_ofW HT_.out HW_.out (by kernel_rfl)) (fun _ _ _ h => h) (Or.inl ⟨by rfl, ?_⟩) hHeld ?_ ?_
                 rotate_left
                 · rintro w' ⟨s0, s1, s2, s3, s4, s5, s6, s7, s8, s9, s10, s11, cv0_, cv1_⟩
                   rw [hcv65H.out] at cv0_; unfold X.cvS at cv0_; rw [hcv67H.out] at cv1_; unfold X.cvS at cv1_
                   go_simp
                   with_reducible rfl)
            rotate_left
            · simp only [Act.put, List.setIfInBounds_toArray, List.set_cons_zero, List.set_cons_succ, i64_w, i32_w]
              rfl
            first
              | (refine pure_ (i := 29) (N := some 4) (v := ?_) (a' := ?_) #[true, true, true, true, true, true, true, true, true, true, true, true, true, true, true, true, true, true, true, true, true, true, true, true, true, true, true, true, true, true] rfl rfl (any_of HT_.out (by kernel_rfl)) (fun _ _ _ h => h) (Or.inl ⟨by rfl, ?_⟩) ?_ ?_
                 rotate_left
                 · intro w'
                   go_simp
                   with_reducible rfl)
              | (refine take_ (i := 29) (N := some 4) (v := ?_) (a' := ?_) #[true, true, true, true, true, true, true, true, true, true, true, true, true, true, true, true, true, true, true, true, true, true, true, true, true, true, true, true, true, true] rfl rfl (take_ofW HT_.out HW_.out (by kernel_rfl)) (fun _ _ _ h => h) (Or.inl ⟨by rfl, ?_⟩) hHeld ?_ ?_
                 rotate_left
                 · rintro w' ⟨s0, s1, s2, s3, s4, s5, s6, s7, s8, s9, s10, s11, cv0_, cv1_⟩
                   rw [hcv65H.out] at cv0_; unfold X.cvS at cv0_; rw [hcv67H.out] at cv1_; unfold X.cvS at cv1_
                   go_simp
                   with_reducible rfl)
            rotate_left
            · simp only [Act.put, List.setIfInBounds_toArray, List.set_cons_zero, List.set_cons_succ, i64_w, i32_w]
              rfl
            refine done_ (done_of HT_.out (by kernel_rfl)) ?_
            try go_wp2
            go_ret
            exact ⟨by first | rfl | (simp [errW_none, errW_some] <;> rfl) | (simp only [← hji40]; first | rfl | (simp [errW_none, errW_some] <;> rfl)) | (simp [*, errW_none, errW_some] <;> rfl), by repeat (first | (with_reducible first | exact HB.out | apply below_alloc | apply pw_below_drewN | apply below_drew1 | refine below_set ?_ GE421.out | refine below_set ?_ GE422.out | refine below_set ?_ GE450.out | refine below_set ?_ GE464.out) | exact HB.out)⟩
  · replace c4 := Bool.eq_false_iff.mpr c4
    subst c4
    have H1 : (some false) = some r := by rw [if_neg (show ¬ (false = true) by decide)] at H; exact H
    clear H
    have H := H1
    clear H1
    exact absurd (Option.some.inj H) (by rw [hT]; decide)

end Go.Proofs.Ytpihpabofgmahaa.U
