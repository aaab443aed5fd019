/- Written by uprint.py (ours) for this seat: functions of the translation as Lean functions, and what their calls do. Not trusted: Lean checks it. -/
import Derived.Test.YtpihpabofgmahaaXWide
import Derived.Test.YtpihpabofgmahaaUx0
import Derived.Test.YtpihpabofgmahaaUx7
import Derived.Test.YtpihpabofgmahaaUx11
import Derived.Test.YtpihpabofgmahaaUx12
import Derived.Test.YtpihpabofgmahaaUx20
namespace Go.Proofs.Ytpihpabofgmahaa.U
open Go.RowKit Go.Proofs.YtpihpabofgmahaaW.PrintWords Go.Proofs.YtpihpabofgmahaaW.PrintLast Go.Proofs.YtpihpabofgmahaaW.PrintMore
attribute [local go_sem] max2_int min2_int max_two min_two max_three min_three max_four min_four   -- for this text's walks alone
set_option linter.unusedVariables false
set_option linter.unusedSimpArgs false

/-! ### undercroftlaw03_RecordBack: function 5 -/
def undercroftlaw03_RecordBack.f (k : Nat) (a0_0 : Int) (l0_1 : List (S43)) (l0_2 : List Int) (l1 : List Int) : Option (Bool) := (undercroftlaw03_alive.f).bind fun t310 => (if t310 = true then ((record_Encode.f a0_0 l0_1 l0_2).bind fun bt311 => (if bt311.2 = 0 then ((some (([] : List Int) : List Int)).bind fun y315 => (if y315.length + bt311.1.length < 140737488355328 then ((some (y315 ++ bt311.1 : List Int)).bind fun y318 => (if y318.length + l1.length < 140737488400000 then ((some (y318 ++ l1 : List Int)).bind fun y321 => ((record_Decode.f y321 a0_0).bind fun bt324 => ((record_Decode.f y321 (IntKind.u64.wrap (a0_0 + 1))).bind fun bt334 => (if 0 ≤ (wrap64 ((bt311.1.length : Int) - 1)) then (if (wrap64 ((bt311.1.length : Int) - 1)) ≤ (y321.length : Int) then ((record_Decode.f (y321.take ((wrap64 ((bt311.1.length : Int) - 1)) : Int).toNat) a0_0).bind fun bt348 => (if bt324.2.2.2.2 = true then (if bt324.2.2.2.1 = (wrap64 ((l0_1.length : Int) + 2)) then (if (wrap64 (256 * bt324.2.2.2.1)) = (bt311.1.length : Int) then ((undercroftref03_Same.f k bt324.1 bt324.2.1 bt324.2.2.1 a0_0 l0_1 l0_2).bind fun t358 => (if t358 = true then (if bt334.2.2.2.2 = true then (some false) else (some (!bt348.2.2.2.2))) else (some false))) else (some false)) else (some false)) else (some false))) else (none)) else (none))))) else (none))) else (none))) else (some ((bt311.1.length : Int) == 0)))) else (some false))
theorem undercroftlaw03_RecordBack.mono : ∀ a0 a1 a2 a3 k, LeO (undercroftlaw03_RecordBack.f k a0 a1 a2 a3) (undercroftlaw03_RecordBack.f (k + 1) a0 a1 a2 a3) := by
  intro a0 a1 a2 a3 k
  unfold undercroftlaw03_RecordBack.f
  repeat' first
      | (with_reducible exact undercroftref03_Same.mono _ _ _ _ _ _ _)
      | (with_reducible exact LeO.refl _)
      | (with_reducible exact LeO.none _)
      | (with_reducible refine LeO.ite ?_ ?_)
      | (with_reducible refine LeO.bind ?_ (fun _ => ?_))
      | exact undercroftref03_Same.mono _ _ _ _ _ _ _
      | exact LeO.none _
      | refine LeO.ite ?_ ?_
      | refine LeO.bind ?_ (fun _ => ?_)
def undercroftlaw03_RecordBack.T10 : Bool × List (List Nat × List Nat) := (true, [([], []), ([], []), ([1], [1]), ([0, 2], [0, 2]), ([], []), ([4], [4]), ([3, 5], [3, 5]), ([6], [6]), ([7], [7]), ([7], [7]), ([7], [7]), ([], []), ([11, 8, 6, 0, 1, 2, 3, 4, 5, 6, 7, 8, 11], [8, 11]), ([9, 12, 0, 1, 2, 3, 4, 5, 6, 7, 8, 9, 11, 12], [9]), ([10, 13, 0, 1, 2, 3, 4, 5, 6, 7, 8, 9, 10, 11, 12, 13], [10])])
def undercroftlaw03_RecordBack.B10 : List Nat := [0, 0, 2, 7, 0, 16, 63, 127, 255, 255, 255, 0, 2559, 7167, 16383]
theorem undercroftlaw03_RecordBack.tab10 : rtab .any (opsOf Try.f5 10) = undercroftlaw03_RecordBack.T10 := by kernel_rfl
theorem undercroftlaw03_RecordBack.bits10 : waitsOk undercroftlaw03_RecordBack.T10.2 undercroftlaw03_RecordBack.B10 = true := by kernel_rfl
set_option maxHeartbeats 8000000 in
set_option maxRecDepth 100000 in
theorem undercroftlaw03_RecordBack.calls (k : Nat) (a0_0 : Int) (A0_1 : Option Addr) (c0_1 : Nat) (l0_1 : List (S43)) (A0_2 : Option Addr) (c0_2 : Nat) (l0_2 : List Int) (A1 : Option Addr) (c1 : Nat) (l1 : List Int) (r : Bool) (w : World) (hr0_1 : Kd.C k43 w A0_1 l0_1.length l0_1) (hc0_1 : l0_1.length ≤ c0_1) (hr0_2 : Kd.C (Kd.int .i64) w A0_2 l0_2.length l0_2) (hc0_2 : l0_2.length ≤ c0_2) (hr1 : Kd.C (Kd.int .u8) w A1 l1.length l1) (hc1 : l1.length ≤ c1) (h : undercroftlaw03_RecordBack.f k a0_0 l0_1 l0_2 l1 = some r) (hT : r = true) :
    Calls Try.prog 5 #[.agg #[.int .u64 a0_0, .slice A0_1 l0_1.length c0_1, .slice A0_2 l0_2.length c0_2], .slice A1 l1.length c1] w fun e w' => e = .returned (.bool r) ∧ Below w.heap.size w w' := by
  have hu26 := Try.underlying26
  have HR0_1 := Aside0.mk hr0_1
  have HC0_1 := Aside0.mk hc0_1
  clear hr0_1 hc0_1
  have HR0_2 := Aside0.mk hr0_2
  have HC0_2 := Aside0.mk hc0_2
  clear hr0_2 hc0_2
  have HR1 := Aside0.mk hr1
  have HC1 := Aside0.mk hc1
  clear hr1 hc1
  have HB := Aside0.mk (Below.refl w.heap.size w)
  have H : ((undercroftlaw03_alive.f).bind fun t310 => (if t310 = true then ((record_Encode.f a0_0 l0_1 l0_2).bind fun bt311 => (if bt311.2 = 0 then ((some (([] : List Int) : List Int)).bind fun y315 => (if y315.length + bt311.1.length < 140737488355328 then ((some (y315 ++ bt311.1 : List Int)).bind fun y318 => (if y318.length + l1.length < 140737488400000 then ((some (y318 ++ l1 : List Int)).bind fun y321 => ((record_Decode.f y321 a0_0).bind fun bt324 => ((record_Decode.f y321 (IntKind.u64.wrap (a0_0 + 1))).bind fun bt334 => (if 0 ≤ (wrap64 ((bt311.1.length : Int) - 1)) then (if (wrap64 ((bt311.1.length : Int) - 1)) ≤ (y321.length : Int) then ((record_Decode.f (y321.take ((wrap64 ((bt311.1.length : Int) - 1)) : Int).toNat) a0_0).bind fun bt348 => (if bt324.2.2.2.2 = true then (if bt324.2.2.2.1 = (wrap64 ((l0_1.length : Int) + 2)) then (if (wrap64 (256 * bt324.2.2.2.1)) = (bt311.1.length : Int) then ((undercroftref03_Same.f k bt324.1 bt324.2.1 bt324.2.2.1 a0_0 l0_1 l0_2).bind fun t358 => (if t358 = true then (if bt334.2.2.2.2 = true then (some false) else (some (!bt348.2.2.2.2))) else (some false))) else (some false)) else (some false)) else (some false))) else (none)) else (none))))) else (none))) else (none))) else (some ((bt311.1.length : Int) == 0)))) else (some false))) = some r := h
  clear h
  replace H := Option.bind_eq_some_iff.mp H
  obtain ⟨t310, A30, H⟩ := H
  replace H : (if t310 = true then ((record_Encode.f a0_0 l0_1 l0_2).bind fun bt311 => (if bt311.2 = 0 then ((some (([] : List Int) : List Int)).bind fun y315 => (if y315.length + bt311.1.length < 140737488355328 then ((some (y315 ++ bt311.1 : List Int)).bind fun y318 => (if y318.length + l1.length < 140737488400000 then ((some (y318 ++ l1 : List Int)).bind fun y321 => ((record_Decode.f y321 a0_0).bind fun bt324 => ((record_Decode.f y321 (IntKind.u64.wrap (a0_0 + 1))).bind fun bt334 => (if 0 ≤ (wrap64 ((bt311.1.length : Int) - 1)) then (if (wrap64 ((bt311.1.length : Int) - 1)) ≤ (y321.length : Int) then ((record_Decode.f (y321.take ((wrap64 ((bt311.1.length : Int) - 1)) : Int).toNat) a0_0).bind fun bt348 => (if bt324.2.2.2.2 = true then (if bt324.2.2.2.1 = (wrap64 ((l0_1.length : Int) + 2)) then (if (wrap64 (256 * bt324.2.2.2.1)) = (bt311.1.length : Int) then ((undercroftref03_Same.f k bt324.1 bt324.2.1 bt324.2.2.1 a0_0 l0_1 l0_2).bind fun t358 => (if t358 = true then (if bt334.2.2.2.2 = true then (some false) else (some (!bt348.2.2.2.2))) else (some false))) else (some false)) else (some false)) else (some false))) else (none)) else (none))))) else (none))) else (none))) else (some ((bt311.1.length : Int) == 0)))) else (some false)) = some r := H
  have A3 := Aside0.mk A30
  clear A30
  by_cases c4 : t310 = true
  · subst c4
    have H1 : ((record_Encode.f a0_0 l0_1 l0_2).bind fun bt311 => (if bt311.2 = 0 then ((some (([] : List Int) : List Int)).bind fun y315 => (if y315.length + bt311.1.length < 140737488355328 then ((some (y315 ++ bt311.1 : List Int)).bind fun y318 => (if y318.length + l1.length < 140737488400000 then ((some (y318 ++ l1 : List Int)).bind fun y321 => ((record_Decode.f y321 a0_0).bind fun bt324 => ((record_Decode.f y321 (IntKind.u64.wrap (a0_0 + 1))).bind fun bt334 => (if 0 ≤ (wrap64 ((bt311.1.length : Int) - 1)) then (if (wrap64 ((bt311.1.length : Int) - 1)) ≤ (y321.length : Int) then ((record_Decode.f (y321.take ((wrap64 ((bt311.1.length : Int) - 1)) : Int).toNat) a0_0).bind fun bt348 => (if bt324.2.2.2.2 = true then (if bt324.2.2.2.1 = (wrap64 ((l0_1.length : Int) + 2)) then (if (wrap64 (256 * bt324.2.2.2.1)) = (bt311.1.length : Int) then ((undercroftref03_Same.f k bt324.1 bt324.2.1 bt324.2.2.1 a0_0 l0_1 l0_2).bind fun t358 => (if t358 = true then (if bt334.2.2.2.2 = true then (some false) else (some (!bt348.2.2.2.2))) else (some false))) else (some false)) else (some false)) else (some false))) else (none)) else (none))))) else (none))) else (none))) else (some ((bt311.1.length : Int) == 0)))) = some r := by rw [if_pos rfl] at H; exact H
    clear H
    have H := H1
    clear H1
    replace H := Option.bind_eq_some_iff.mp H
    obtain ⟨⟨t311, t314⟩, A50, H⟩ := H
    replace H : (if t314 = 0 then ((some (([] : List Int) : List Int)).bind fun y315 => (if y315.length + t311.length < 140737488355328 then ((some (y315 ++ t311 : List Int)).bind fun y318 => (if y318.length + l1.length < 140737488400000 then ((some (y318 ++ l1 : List Int)).bind fun y321 => ((record_Decode.f y321 a0_0).bind fun bt324 => ((record_Decode.f y321 (IntKind.u64.wrap (a0_0 + 1))).bind fun bt334 => (if 0 ≤ (wrap64 ((t311.length : Int) - 1)) then (if (wrap64 ((t311.length : Int) - 1)) ≤ (y321.length : Int) then ((record_Decode.f (y321.take ((wrap64 ((t311.length : Int) - 1)) : Int).toNat) a0_0).bind fun bt348 => (if bt324.2.2.2.2 = true then (if bt324.2.2.2.1 = (wrap64 ((l0_1.length : Int) + 2)) then (if (wrap64 (256 * bt324.2.2.2.1)) = (t311.length : Int) then ((undercroftref03_Same.f k bt324.1 bt324.2.1 bt324.2.2.1 a0_0 l0_1 l0_2).bind fun t358 => (if t358 = true then (if bt334.2.2.2.2 = true then (some false) else (some (!bt348.2.2.2.2))) else (some false))) else (some false)) else (some false)) else (some false))) else (none)) else (none))))) else (none))) else (none))) else (some ((t311.length : Int) == 0))) = some r := H
    have A5 := Aside0.mk A50
    clear A50
    by_cases c6 : t314 = 0
    rotate_left
    · rw [if_neg c6] at H
      have c6b0 : (t314 == 0) = false := beq_eq_false_iff_ne.mpr c6
      have c6b1 : (t314 != 0) = true := bne_iff_ne.mpr c6
      obtain rfl := Option.some.inj H
      go_enter Try.func5, Try.ntmps5
      go_wp2_with (first | ((with_reducible refine gate_dst (N := 2) rfl ?_); (try (refine gate_guard (by rfl) ?_; dsimp only)); refine box_event ?hg (N := 2) ?hd (cs := #[.int .u64 a0_0, .slice A0_1 l0_1.length c0_1, .slice A0_2 l0_2.length c0_2]) (t := 26) ?hr ?_; (case hd => rfl); (case hg => rfl); (case hr => go_simp; first | done | rfl); intro gb309 hg w256 hbox hb; have n0_ := Aside0.mk (below_step (by repeat (first | (with_reducible first | exact HB.out | apply below_alloc | apply pw_below_drewN | apply below_drew1) | exact HB.out)) hb); have n1_ := Aside0.mk (hbox); have n2_ := Aside0.mk ((by rw [hg]; exact (below_size (by repeat (first | (with_reducible first | exact HB.out | apply below_alloc | apply pw_below_drewN | apply below_drew1) | exact HB.out))) : w.heap.size ≤ gb309)); have n3_ := Aside0.mk ((by rw [hg]; exact (below_size (by repeat (first | (with_reducible first | exact HB.out | apply below_alloc | apply pw_below_drewN | apply below_drew1) | exact HB.out))) : w.heap.size ≤ gb309)); clear HB; have HB := n0_; have BK309 := n1_; have GW309 := n2_; have GE309 := n3_; clear n0_ n1_ n2_ n3_; clear hb hbox hg) | ((with_reducible refine gate_callee (f := 11) rfl ?_); refine goesL_ (some 18) rfl rfl Try.func11 (by kernel_rfl) rfl #[] rfl (by (try simp only [List.map_toArray, List.map_cons, List.map_nil]); first | done | rfl | (simp only [List.length_drop, List.length_take]; rfl)) ?_; (with_reducible refine (undercroftlaw03_alive.calls  true _ A3.out rfl).mono ?_); rintro e w257 ⟨rfl, hb⟩; refine ⟨_, rfl, ?_⟩; have n0_ := Aside0.mk (blk_below (g := gb309) (o := .cells #[.int .u64 a0_0, .slice A0_1 l0_1.length c0_1, .slice A0_2 l0_2.length c0_2] 26 (0, 0)) (by (with_reducible repeat (first | refine blk_drewN ?_ _ | refine blk_drew ?_ | refine blk_alloc ?_ _)); exact BK309.out) hb); have n1_ := Aside0.mk (below_step (by repeat (first | (with_reducible first | exact HB.out | apply below_alloc | apply pw_below_drewN | apply below_drew1 | refine below_set ?_ GE309.out) | exact HB.out)) hb); clear BK309; clear HB; have BK309 := n0_; have HB := n1_; clear n0_ n1_; (try clear hb); (try clear hb2); (try clear hk); (try clear hi); have hcz258_0 : w257.cell? ⟨gb309, 0, none⟩ = some (.int .u64 a0_0) := (blk_cell BK309.out 0).trans rfl; have hcz258_1 : w257.cell? ⟨gb309, 1, none⟩ = some (.slice A0_1 l0_1.length c0_1) := (blk_cell BK309.out 1).trans rfl; have hcz258_2 : w257.cell? ⟨gb309, 2, none⟩ = some (.slice A0_2 l0_2.length c0_2) := (blk_cell BK309.out 2).trans rfl; have hfz258_0 := blk_frozen BK309.out 0; have hfz258_1 := blk_frozen BK309.out 1; have hfz258_2 := blk_frozen BK309.out 2) | ((with_reducible refine gate_callee (f := 13) rfl ?_); refine goesL_ (some 22) rfl rfl Try.func13 (by kernel_rfl) rfl #[.agg #[.int .u64 a0_0, .slice A0_1 l0_1.length c0_1, .slice A0_2 l0_2.length c0_2]] rfl (by (try simp only [List.map_toArray, List.map_cons, List.map_nil]); first | done | rfl | (simp only [List.length_drop, List.length_take]; rfl)) ?_; (with_reducible refine (record_Encode.calls a0_0 _ _ l0_1 _ _ l0_2 t311 t314 _ ?side1 ?side2 ?side3 ?side4 A5.out).mono ?_); (case side1 => repeat (first | exact (Kd.C_below HR0_1.out HB.out) | (with_reducible refine Kd.C_alloc ?_ _) | (with_reducible refine Kd.C_drewN ?_ _) | (with_reducible refine Kd.C_drew ?_))); (case side2 => exact HC0_1.out); (case side3 => repeat (first | exact (Kd.C_below HR0_2.out HB.out) | (with_reducible refine Kd.C_alloc ?_ _) | (with_reducible refine Kd.C_drewN ?_ _) | (with_reducible refine Kd.C_drew ?_))); (case side4 => exact HC0_2.out); rintro e w259 ⟨v312, rfl, ho0, hb⟩; refine ⟨_, rfl, ?_⟩; have n0_ := Aside0.mk (Kd.R_lower ho0 (below_size (by repeat (first | (with_reducible first | exact HB.out | apply below_alloc | apply pw_below_drewN | apply below_drew1 | refine below_set ?_ GE309.out) | exact HB.out)))); have n1_ := Aside0.mk (blk_below (g := gb309) (o := .cells #[.int .u64 a0_0, .slice A0_1 l0_1.length c0_1, .slice A0_2 l0_2.length c0_2] 26 (0, 0)) (by (with_reducible repeat (first | refine blk_drewN ?_ _ | refine blk_drew ?_ | refine blk_alloc ?_ _)); exact BK309.out) hb); have n2_ := Aside0.mk (below_step (by repeat (first | (with_reducible first | exact HB.out | apply below_alloc | apply pw_below_drewN | apply below_drew1 | refine below_set ?_ GE309.out) | exact HB.out)) hb); clear BK309; clear HB; have HO313 := n0_; have BK309 := n1_; have HB := n2_; clear n0_ n1_ n2_; (try clear hb); (try clear hb2); (try clear hk); (try clear hi); (try clear ho0); obtain ⟨Ao260, co260, eo260⟩ := Kd.R_slice HO313.out; subst eo260))
      go_ret
      exact ⟨by first | rfl | (simp [errW_none, errW_some] <;> rfl) | (simp [*, errW_none, errW_some] <;> rfl), by repeat (first | (with_reducible first | exact HB.out | apply below_alloc | apply pw_below_drewN | apply below_drew1 | refine below_set ?_ GE309.out) | exact HB.out)⟩
    rw [if_pos c6] at H
    have c6b0 : (t314 == 0) = true := beq_iff_eq.mpr c6
    have c6b1 : (t314 != 0) = false := bne_eq_false_iff_eq.mpr c6
    clear c6
    obtain ⟨y315, hy315⟩ : ∃ y_ : List Int, y_ = (([] : List Int)) := ⟨_, rfl⟩
    replace H : (if y315.length + t311.length < 140737488355328 then ((some (y315 ++ t311 : List Int)).bind fun y318 => (if y318.length + l1.length < 140737488400000 then ((some (y318 ++ l1 : List Int)).bind fun y321 => ((record_Decode.f y321 a0_0).bind fun bt324 => ((record_Decode.f y321 (IntKind.u64.wrap (a0_0 + 1))).bind fun bt334 => (if 0 ≤ (wrap64 ((t311.length : Int) - 1)) then (if (wrap64 ((t311.length : Int) - 1)) ≤ (y321.length : Int) then ((record_Decode.f (y321.take ((wrap64 ((t311.length : Int) - 1)) : Int).toNat) a0_0).bind fun bt348 => (if bt324.2.2.2.2 = true then (if bt324.2.2.2.1 = (wrap64 ((l0_1.length : Int) + 2)) then (if (wrap64 (256 * bt324.2.2.2.1)) = (t311.length : Int) then ((undercroftref03_Same.f k bt324.1 bt324.2.1 bt324.2.2.1 a0_0 l0_1 l0_2).bind fun t358 => (if t358 = true then (if bt334.2.2.2.2 = true then (some false) else (some (!bt348.2.2.2.2))) else (some false))) else (some false)) else (some false)) else (some false))) else (none)) else (none))))) else (none))) else (none)) = some r := by first | (rw [hy315]; with_reducible exact H) | (have H2_ := (Option.bind_some _ _).symm.trans H; rw [hy315]; with_reducible exact H2_) | (have H2_ := (Option.bind_some _ _).symm.trans H; with_reducible exact H2_) | with_reducible exact H | (rw [hy315]; exact H) | exact H
    have Ny315 := Aside0.mk hy315
    clear hy315
    by_cases c7 : y315.length + t311.length < 140737488355328
    rotate_left
    · rw [if_neg c7] at H
      exact absurd H (by simp)
    rw [if_pos c7] at H
    have LMc7 := Aside0.mk c7
    clear c7
    obtain ⟨y318, hy318⟩ : ∃ y_ : List Int, y_ = (y315 ++ t311) := ⟨_, rfl⟩
    replace H : (if y318.length + l1.length < 140737488400000 then ((some (y318 ++ l1 : List Int)).bind fun y321 => ((record_Decode.f y321 a0_0).bind fun bt324 => ((record_Decode.f y321 (IntKind.u64.wrap (a0_0 + 1))).bind fun bt334 => (if 0 ≤ (wrap64 ((t311.length : Int) - 1)) then (if (wrap64 ((t311.length : Int) - 1)) ≤ (y321.length : Int) then ((record_Decode.f (y321.take ((wrap64 ((t311.length : Int) - 1)) : Int).toNat) a0_0).bind fun bt348 => (if bt324.2.2.2.2 = true then (if bt324.2.2.2.1 = (wrap64 ((l0_1.length : Int) + 2)) then (if (wrap64 (256 * bt324.2.2.2.1)) = (t311.length : Int) then ((undercroftref03_Same.f k bt324.1 bt324.2.1 bt324.2.2.1 a0_0 l0_1 l0_2).bind fun t358 => (if t358 = true then (if bt334.2.2.2.2 = true then (some false) else (some (!bt348.2.2.2.2))) else (some false))) else (some false)) else (some false)) else (some false))) else (none)) else (none))))) else (none)) = some r := by first | (rw [hy318]; with_reducible exact H) | (have H2_ := (Option.bind_some _ _).symm.trans H; rw [hy318]; with_reducible exact H2_) | (have H2_ := (Option.bind_some _ _).symm.trans H; with_reducible exact H2_) | with_reducible exact H | (rw [hy318]; exact H) | exact H
    have Ny318 := Aside0.mk hy318
    clear hy318
    by_cases c8 : y318.length + l1.length < 140737488400000
    rotate_left
    · rw [if_neg c8] at H
      exact absurd H (by simp)
    rw [if_pos c8] at H
    have LMc8 := Aside0.mk c8
    clear c8
    obtain ⟨y321, hy321⟩ : ∃ y_ : List Int, y_ = (y318 ++ l1) := ⟨_, rfl⟩
    replace H : ((record_Decode.f y321 a0_0).bind fun bt324 => ((record_Decode.f y321 (IntKind.u64.wrap (a0_0 + 1))).bind fun bt334 => (if 0 ≤ (wrap64 ((t311.length : Int) - 1)) then (if (wrap64 ((t311.length : Int) - 1)) ≤ (y321.length : Int) then ((record_Decode.f (y321.take ((wrap64 ((t311.length : Int) - 1)) : Int).toNat) a0_0).bind fun bt348 => (if bt324.2.2.2.2 = true then (if bt324.2.2.2.1 = (wrap64 ((l0_1.length : Int) + 2)) then (if (wrap64 (256 * bt324.2.2.2.1)) = (t311.length : Int) then ((undercroftref03_Same.f k bt324.1 bt324.2.1 bt324.2.2.1 a0_0 l0_1 l0_2).bind fun t358 => (if t358 = true then (if bt334.2.2.2.2 = true then (some false) else (some (!bt348.2.2.2.2))) else (some false))) else (some false)) else (some false)) else (some false))) else (none)) else (none)))) = some r := by first | (rw [hy321]; with_reducible exact H) | (have H2_ := (Option.bind_some _ _).symm.trans H; rw [hy321]; with_reducible exact H2_) | (have H2_ := (Option.bind_some _ _).symm.trans H; with_reducible exact H2_) | with_reducible exact H | (rw [hy321]; exact H) | exact H
    have Ny321 := Aside0.mk hy321
    clear hy321
    replace H := Option.bind_eq_some_iff.mp H
    obtain ⟨⟨t324, t325, t328, t331, t332⟩, A90, H⟩ := H
    replace H : ((record_Decode.f y321 (IntKind.u64.wrap (a0_0 + 1))).bind fun bt334 => (if 0 ≤ (wrap64 ((t311.length : Int) - 1)) then (if (wrap64 ((t311.length : Int) - 1)) ≤ (y321.length : Int) then ((record_Decode.f (y321.take ((wrap64 ((t311.length : Int) - 1)) : Int).toNat) a0_0).bind fun bt348 => (if t332 = true then (if t331 = (wrap64 ((l0_1.length : Int) + 2)) then (if (wrap64 (256 * t331)) = (t311.length : Int) then ((undercroftref03_Same.f k t324 t325 t328 a0_0 l0_1 l0_2).bind fun t358 => (if t358 = true then (if bt334.2.2.2.2 = true then (some false) else (some (!bt348.2.2.2.2))) else (some false))) else (some false)) else (some false)) else (some false))) else (none)) else (none))) = some r := H
    have A9 := Aside0.mk A90
    clear A90
    replace H := Option.bind_eq_some_iff.mp H
    obtain ⟨⟨t334, t335, t338, t341, t342⟩, A100, H⟩ := H
    replace H : (if 0 ≤ (wrap64 ((t311.length : Int) - 1)) then (if (wrap64 ((t311.length : Int) - 1)) ≤ (y321.length : Int) then ((record_Decode.f (y321.take ((wrap64 ((t311.length : Int) - 1)) : Int).toNat) a0_0).bind fun bt348 => (if t332 = true then (if t331 = (wrap64 ((l0_1.length : Int) + 2)) then (if (wrap64 (256 * t331)) = (t311.length : Int) then ((undercroftref03_Same.f k t324 t325 t328 a0_0 l0_1 l0_2).bind fun t358 => (if t358 = true then (if t342 = true then (some false) else (some (!bt348.2.2.2.2))) else (some false))) else (some false)) else (some false)) else (some false))) else (none)) else (none)) = some r := H
    have A10 := Aside0.mk A100
    clear A100
    obtain ⟨ji11, hji11⟩ : ∃ j_ : Int, (wrap64 ((t311.length : Int) - 1)) = j_ := ⟨_, rfl⟩
    replace H : (if 0 ≤ (ji11) then (if (ji11) ≤ (y321.length : Int) then ((record_Decode.f (y321.take ((ji11) : Int).toNat) a0_0).bind fun bt348 => (if t332 = true then (if t331 = (wrap64 ((l0_1.length : Int) + 2)) then (if (wrap64 (256 * t331)) = (t311.length : Int) then ((undercroftref03_Same.f k t324 t325 t328 a0_0 l0_1 l0_2).bind fun t358 => (if t358 = true then (if t342 = true then (some false) else (some (!bt348.2.2.2.2))) else (some false))) else (some false)) else (some false)) else (some false))) else (none)) else (none)) = some r := by first | (rw [hji11] at H; exact H) | (simp only [hji11] at H ⊢; exact H)
    (try rw [hji11] at A3)
    (try rw [hji11] at A5)
    (try rw [hji11] at A9)
    (try rw [hji11] at A10)
    have hji11w : (IntKind.i64.wrap ((t311.length : Int) - 1)) = ji11 := (i64_w _).trans hji11
    by_cases c12 : 0 ≤ (ji11)
    rotate_left
    · rw [if_neg c12] at H
      exact absurd H (by simp)
    rw [if_pos c12] at H
    have c12b0 := eq_true c12
    have c12b1 : decide (0 ≤ (ji11)) = true := decide_eq_true c12
    clear c12
    by_cases c13 : (ji11) ≤ (y321.length : Int)
    rotate_left
    · rw [if_neg c13] at H
      exact absurd H (by simp)
    rw [if_pos c13] at H
    have c13b0 := eq_true c13
    have c13b1 : decide ((ji11) ≤ (y321.length : Int)) = true := decide_eq_true c13
    clear c13
    obtain ⟨y344, hy344⟩ : ∃ y_ : List Int, y_ = (y321.take ((ji11) : Int).toNat) := ⟨_, rfl⟩
    replace H : ((record_Decode.f y344 a0_0).bind fun bt348 => (if t332 = true then (if t331 = (wrap64 ((l0_1.length : Int) + 2)) then (if (wrap64 (256 * t331)) = (t311.length : Int) then ((undercroftref03_Same.f k t324 t325 t328 a0_0 l0_1 l0_2).bind fun t358 => (if t358 = true then (if t342 = true then (some false) else (some (!bt348.2.2.2.2))) else (some false))) else (some false)) else (some false)) else (some false))) = some r := by first | (rw [hy344]; with_reducible exact H) | (have H2_ := (Option.bind_some _ _).symm.trans H; rw [hy344]; with_reducible exact H2_) | (have H2_ := (Option.bind_some _ _).symm.trans H; with_reducible exact H2_) | with_reducible exact H | (rw [hy344]; exact H) | exact H
    have Ny344 := Aside0.mk hy344
    clear hy344
    replace H := Option.bind_eq_some_iff.mp H
    obtain ⟨⟨t348, t349, t352, t355, t356⟩, A140, H⟩ := H
    replace H : (if t332 = true then (if t331 = (wrap64 ((l0_1.length : Int) + 2)) then (if (wrap64 (256 * t331)) = (t311.length : Int) then ((undercroftref03_Same.f k t324 t325 t328 a0_0 l0_1 l0_2).bind fun t358 => (if t358 = true then (if t342 = true then (some false) else (some (!t356))) else (some false))) else (some false)) else (some false)) else (some false)) = some r := H
    have A14 := Aside0.mk A140
    clear A140
    by_cases c15 : t332 = true
    rotate_left
    · replace c15 := Bool.eq_false_iff.mpr c15
      subst c15
      have H1 : (some false) = some r := by rw [if_neg (show ¬ (false = true) by decide)] at H; exact H
      clear H
      have H := H1
      clear H1
      exact absurd (Option.some.inj H) (by rw [hT]; decide)
    subst c15
    have H1 : (if t331 = (wrap64 ((l0_1.length : Int) + 2)) then (if (wrap64 (256 * t331)) = (t311.length : Int) then ((undercroftref03_Same.f k t324 t325 t328 a0_0 l0_1 l0_2).bind fun t358 => (if t358 = true then (if t342 = true then (some false) else (some (!t356))) else (some false))) else (some false)) else (some false)) = some r := by rw [if_pos rfl] at H; exact H
    clear H
    have H := H1
    clear H1
    by_cases c16 : t331 = (wrap64 ((l0_1.length : Int) + 2))
    rotate_left
    · rw [if_neg c16] at H
      have c16b0 : (t331 == (wrap64 ((l0_1.length : Int) + 2))) = false := beq_eq_false_iff_ne.mpr c16
      have c16b1 : (t331 != (wrap64 ((l0_1.length : Int) + 2))) = true := bne_iff_ne.mpr c16
      exact absurd (Option.some.inj H) (by rw [hT]; decide)
    rw [if_pos c16] at H
    have c16b0 : (t331 == (wrap64 ((l0_1.length : Int) + 2))) = true := beq_iff_eq.mpr c16
    have c16b1 : (t331 != (wrap64 ((l0_1.length : Int) + 2))) = false := bne_eq_false_iff_eq.mpr c16
    clear c16
    by_cases c17 : (wrap64 (256 * t331)) = (t311.length : Int)
    rotate_left
    · rw [if_neg c17] at H
      have c17b0 : ((wrap64 (256 * t331)) == (t311.length : Int)) = false := beq_eq_false_iff_ne.mpr c17
      have c17b1 : ((wrap64 (256 * t331)) != (t311.length : Int)) = true := bne_iff_ne.mpr c17
      exact absurd (Option.some.inj H) (by rw [hT]; decide)
    rw [if_pos c17] at H
    have c17b0 : ((wrap64 (256 * t331)) == (t311.length : Int)) = true := beq_iff_eq.mpr c17
    have c17b1 : ((wrap64 (256 * t331)) != (t311.length : Int)) = false := bne_eq_false_iff_eq.mpr c17
    clear c17
    replace H := Option.bind_eq_some_iff.mp H
    obtain ⟨t358, A180, H⟩ := H
    replace H : (if t358 = true then (if t342 = true then (some false) else (some (!t356))) else (some false)) = some r := H
    have A18 := Aside0.mk A180
    clear A180
    by_cases c19 : t358 = true
    rotate_left
    · replace c19 := Bool.eq_false_iff.mpr c19
      subst c19
      have H1 : (some false) = some r := by rw [if_neg (show ¬ (false = true) by decide)] at H; exact H
      clear H
      have H := H1
      clear H1
      exact absurd (Option.some.inj H) (by rw [hT]; decide)
    subst c19
    have H1 : (if t342 = true then (some false) else (some (!t356))) = some r := by rw [if_pos rfl] at H; exact H
    clear H
    have H := H1
    clear H1
    by_cases c20 : t342 = true
    · subst c20
      have H1 : (some false) = some r := by rw [if_pos rfl] at H; exact H
      clear H
      have H := H1
      clear H1
      exact absurd (Option.some.inj H) (by rw [hT]; decide)
    replace c20 := Bool.eq_false_iff.mpr c20
    subst c20
    have H1 : (some (!t356)) = some r := by rw [if_neg (show ¬ (false = true) by decide)] at H; exact H
    clear H
    have H := H1
    clear H1
    obtain rfl := Option.some.inj H
    go_enter Try.func5, Try.ntmps5
    try go_wp2_with (first | ((with_reducible refine gate_dst (N := 2) rfl ?_); (try (refine gate_guard (by rfl) ?_; dsimp only)); refine box_event ?hg (N := 2) ?hd (cs := #[.int .u64 a0_0, .slice A0_1 l0_1.length c0_1, .slice A0_2 l0_2.length c0_2]) (t := 26) ?hr ?_; (case hd => rfl); (case hg => rfl); (case hr => go_simp; first | done | rfl); intro gb309 hg w62 hbox hb; have n0_ := Aside0.mk (below_step (by repeat (first | (with_reducible first | exact HB.out | apply below_alloc | apply pw_below_drewN | apply below_drew1) | exact HB.out)) hb); have n1_ := Aside0.mk (hbox); have n2_ := Aside0.mk ((by rw [hg]; exact (below_size (by repeat (first | (with_reducible first | exact HB.out | apply below_alloc | apply pw_below_drewN | apply below_drew1) | exact HB.out))) : w.heap.size ≤ gb309)); have n3_ := Aside0.mk ((by rw [hg]; exact (below_size (by repeat (first | (with_reducible first | exact HB.out | apply below_alloc | apply pw_below_drewN | apply below_drew1) | exact HB.out))) : w.heap.size ≤ gb309)); clear HB; have HB := n0_; have BK309 := n1_; have GW309 := n2_; have GE309 := n3_; clear n0_ n1_ n2_ n3_; clear hb hbox hg) | ((with_reducible refine gate_callee (f := 11) rfl ?_); refine goesL_ (some 18) rfl rfl Try.func11 (by kernel_rfl) rfl #[] rfl (by (try simp only [List.map_toArray, List.map_cons, List.map_nil]); first | done | rfl | (simp only [List.length_drop, List.length_take]; rfl)) ?_; (with_reducible refine (undercroftlaw03_alive.calls  true _ A3.out rfl).mono ?_); rintro e w63 ⟨rfl, hb⟩; refine ⟨_, rfl, ?_⟩; have n0_ := Aside0.mk (blk_below (g := gb309) (o := .cells #[.int .u64 a0_0, .slice A0_1 l0_1.length c0_1, .slice A0_2 l0_2.length c0_2] 26 (0, 0)) (by (with_reducible repeat (first | refine blk_drewN ?_ _ | refine blk_drew ?_ | refine blk_alloc ?_ _)); exact BK309.out) hb); have n1_ := Aside0.mk (below_step (by repeat (first | (with_reducible first | exact HB.out | apply below_alloc | apply pw_below_drewN | apply below_drew1 | refine below_set ?_ GE309.out) | exact HB.out)) hb); clear BK309; clear HB; have BK309 := n0_; have HB := n1_; clear n0_ n1_; (try clear hb); (try clear hb2); (try clear hk); (try clear hi); have hcz64_0 : w63.cell? ⟨gb309, 0, none⟩ = some (.int .u64 a0_0) := (blk_cell BK309.out 0).trans rfl; have hcz64_1 : w63.cell? ⟨gb309, 1, none⟩ = some (.slice A0_1 l0_1.length c0_1) := (blk_cell BK309.out 1).trans rfl; have hcz64_2 : w63.cell? ⟨gb309, 2, none⟩ = some (.slice A0_2 l0_2.length c0_2) := (blk_cell BK309.out 2).trans rfl; have hfz64_0 := blk_frozen BK309.out 0; have hfz64_1 := blk_frozen BK309.out 1; have hfz64_2 := blk_frozen BK309.out 2) | ((with_reducible refine gate_callee (f := 13) rfl ?_); refine goesL_ (some 22) rfl rfl Try.func13 (by kernel_rfl) rfl #[.agg #[.int .u64 a0_0, .slice A0_1 l0_1.length c0_1, .slice A0_2 l0_2.length c0_2]] rfl (by (try simp only [List.map_toArray, List.map_cons, List.map_nil]); first | done | rfl | (simp only [List.length_drop, List.length_take]; rfl)) ?_; (with_reducible refine (record_Encode.calls a0_0 _ _ l0_1 _ _ l0_2 t311 t314 _ ?side1 ?side2 ?side3 ?side4 A5.out).mono ?_); (case side1 => repeat (first | exact (Kd.C_below HR0_1.out HB.out) | (with_reducible refine Kd.C_alloc ?_ _) | (with_reducible refine Kd.C_drewN ?_ _) | (with_reducible refine Kd.C_drew ?_))); (case side2 => exact HC0_1.out); (case side3 => repeat (first | exact (Kd.C_below HR0_2.out HB.out) | (with_reducible refine Kd.C_alloc ?_ _) | (with_reducible refine Kd.C_drewN ?_ _) | (with_reducible refine Kd.C_drew ?_))); (case side4 => exact HC0_2.out); rintro e w65 ⟨v312, rfl, ho0, hb⟩; refine ⟨_, rfl, ?_⟩; have n0_ := Aside0.mk (Kd.R_lower ho0 (below_size (by repeat (first | (with_reducible first | exact HB.out | apply below_alloc | apply pw_below_drewN | apply below_drew1 | refine below_set ?_ GE309.out) | exact HB.out)))); have n1_ := Aside0.mk (blk_below (g := gb309) (o := .cells #[.int .u64 a0_0, .slice A0_1 l0_1.length c0_1, .slice A0_2 l0_2.length c0_2] 26 (0, 0)) (by (with_reducible repeat (first | refine blk_drewN ?_ _ | refine blk_drew ?_ | refine blk_alloc ?_ _)); exact BK309.out) hb); have n2_ := Aside0.mk (below_step (by repeat (first | (with_reducible first | exact HB.out | apply below_alloc | apply pw_below_drewN | apply below_drew1 | refine below_set ?_ GE309.out) | exact HB.out)) hb); clear BK309; clear HB; have HO313 := n0_; have BK309 := n1_; have HB := n2_; clear n0_ n1_ n2_; (try clear hb); (try clear hb2); (try clear hk); (try clear hi); (try clear ho0); obtain ⟨Ao66, co66, eo66⟩ := Kd.R_slice HO313.out; subst eo66) | ((with_reducible refine gate_dst (N := 32) rfl ?_); (try (refine gate_guard (by rfl) ?_; dsimp only)); refine Kd.R_lit (Kd.int .u8) _ 5 ?hg (N := 32) ?hd (xs := ([] : List Int)) (inner := []) (ok := fun _ => True) (okp := fun _ => True) ?hr ?hp (fun _ hk => hk) trivial (Below.refl _ _) (Nat.le_refl _) (by simp) ?_; (case hd => rfl); (case hg => rfl); (case hr => go_simp; first | done | rfl); (case hp => exact (Reps.none _ _)); intro v316 w67 ho68 hb hg_ hnew_; clear hg_ hnew_; (first | rw [← Ny315.out] at ho68 | (simp only [Int.reduceToNat] at ho68; rw [← Ny315.out] at ho68)); have n0_ := Aside0.mk (Kd.R_elder' (by (with_reducible repeat (first | apply Kd.R_alloc | apply Kd.R_drewN | apply Kd.R_drew)); exact HO313.out) (Kd.R_base ho68) hb); have n1_ := Aside0.mk (Kd.R_lower (Kd.R_new' ho68 (Kd.R_lt (by (with_reducible repeat (first | apply Kd.R_alloc | apply Kd.R_drewN | apply Kd.R_drew)); exact HO313.out))) (below_size (by repeat (first | (with_reducible first | exact HB.out | apply below_alloc | apply pw_below_drewN | apply below_drew1 | refine below_set ?_ GE309.out) | exact HB.out)))); have n2_ := Aside0.mk (blk_below (g := gb309) (o := .cells #[.int .u64 a0_0, .slice A0_1 l0_1.length c0_1, .slice A0_2 l0_2.length c0_2] 26 (0, 0)) (by (with_reducible repeat (first | refine blk_drewN ?_ _ | refine blk_drew ?_ | refine blk_alloc ?_ _)); exact BK309.out) hb); have n3_ := Aside0.mk (below_step (by repeat (first | (with_reducible first | exact HB.out | apply below_alloc | apply pw_below_drewN | apply below_drew1 | refine below_set ?_ GE309.out) | exact HB.out)) hb); clear HO313; clear BK309; clear HB; have HO313 := n0_; have HO317 := n1_; have BK309 := n2_; have HB := n3_; clear n0_ n1_ n2_ n3_; clear hb ho68) | ((with_reducible refine gate_builtin (b := .append) (xs := #[.tmp 32, .tmp 33]) rfl ?_); (try (refine gate_guard (by rfl) ?_; dsimp only)); at_builtin; refine Kd.R_append_rows (Kd.int .u8) (w0 := w) w.heap.size rfl (.tmp 32) (.tmp 33) 29 5 (.int .u8 0) 1 rfl Try.underlying29 info5 rfl (by decide) (by omega) v316 y315 t311 _ _ _ (fun k_ => some k_ ≠ (.slice Ao66 t311.length co66 : Value).ownBlock) (fun _ => False) rfl rfl ?aO ?aR (fun _ _ h => h) (fun _ h => h.elim) ?aF ?aB ?aS ?aL ?_; (case aR => repeat (first | exact (Kd.R_reads' HO313.out).2.2 | (with_reducible refine Kd.C_alloc ?_ _) | (with_reducible refine Kd.C_drewN ?_ _) | (with_reducible refine Kd.C_drew ?_))); (case aB => exact (by repeat (first | (with_reducible first | exact HB.out | apply below_alloc | apply pw_below_drewN | apply below_drew1 | refine below_set ?_ GE309.out) | exact HB.out))); (case aF => exact (fun k_ hk => Kd.fresh' (Kd.R_lt (by (with_reducible repeat (first | apply Kd.R_alloc | apply Kd.R_drewN | apply Kd.R_drew)); exact HO313.out)) k_ hk)); (case aO => exact (by (with_reducible repeat (first | apply Kd.R_alloc | apply Kd.R_drewN | apply Kd.R_drew)); exact Kd.R_mono HO317.out (fun _ hk => hk.2))); (case aS => exact (below_size (by repeat (first | (with_reducible first | exact HB.out | apply below_alloc | apply pw_below_drewN | apply below_drew1 | refine below_set ?_ GE309.out) | exact HB.out)))); (case aL => have := LMc7.out; omega); intro v319 w69 ho hb hg hat; rw [← Ny318.out] at ho; have n0_ := Aside0.mk (blk_grown (g := gb309) (o := .cells #[.int .u64 a0_0, .slice A0_1 l0_1.length c0_1, .slice A0_2 l0_2.length c0_2] 26 (0, 0)) (by (with_reducible repeat (first | refine blk_drewN ?_ _ | refine blk_drew ?_ | refine blk_alloc ?_ _)); exact BK309.out) hg (Kd.R_ne HO317.out BK309.out (by decide))); have n1_ := Aside0.mk (Kd.R_after (ok := (fun _ => True)) (by (with_reducible repeat (first | apply Kd.R_alloc | apply Kd.R_drewN | apply Kd.R_drew)); exact HO313.out) hg hat); have n2_ := Aside0.mk (hb); have n3_ := Aside0.mk (ho); clear BK309; clear HO313; clear HB; clear HO317; have BK309 := n0_; have HO313 := n1_; have HB := n2_; have HO320 := n3_; clear n0_ n1_ n2_ n3_; clear ho hb hg hat) | ((with_reducible refine gate_builtin (b := .append) (xs := #[.tmp 34, .tmp 35]) rfl ?_); (try (refine gate_guard (by rfl) ?_; dsimp only)); at_builtin; refine X.R_append_wide .u8 (w0 := w) w.heap.size rfl (.tmp 34) (.tmp 35) 29 5 (.int .u8 0) 1 rfl Try.underlying29 info5 rfl (by decide) (by omega) v319 y318 l1 _ _ _ (fun k_ => some k_ ≠ (.slice Ao66 t311.length co66 : Value).ownBlock) (fun _ => False) rfl rfl ?aO ?aR (fun _ _ h => h) (fun _ h => h.elim) ?aF ?aB ?aS ?aL ?_; (case aR => repeat (first | exact (Kd.C_below HR1.out HB.out) | (with_reducible refine Kd.C_alloc ?_ _) | (with_reducible refine Kd.C_drewN ?_ _) | (with_reducible refine Kd.C_drew ?_))); (case aB => exact (by repeat (first | (with_reducible first | exact HB.out | apply below_alloc | apply pw_below_drewN | apply below_drew1 | refine below_set ?_ GE309.out) | exact HB.out))); (case aF => exact (fun k_ hk => Kd.fresh' (Kd.R_lt (by (with_reducible repeat (first | apply Kd.R_alloc | apply Kd.R_drewN | apply Kd.R_drew)); exact HO313.out)) k_ hk)); (case aO => exact (by (with_reducible repeat (first | apply Kd.R_alloc | apply Kd.R_drewN | apply Kd.R_drew)); exact HO320.out)); (case aS => exact (below_size (by repeat (first | (with_reducible first | exact HB.out | apply below_alloc | apply pw_below_drewN | apply below_drew1 | refine below_set ?_ GE309.out) | exact HB.out)))); (case aL => have := LMc8.out; omega); intro v322 w70 ho hb hg hat; rw [← Ny321.out] at ho; have n0_ := Aside0.mk (blk_grown (g := gb309) (o := .cells #[.int .u64 a0_0, .slice A0_1 l0_1.length c0_1, .slice A0_2 l0_2.length c0_2] 26 (0, 0)) (by (with_reducible repeat (first | refine blk_drewN ?_ _ | refine blk_drew ?_ | refine blk_alloc ?_ _)); exact BK309.out) hg (Kd.R_ne HO320.out BK309.out (by decide))); have n1_ := Aside0.mk (Kd.R_after (ok := (fun _ => True)) (by (with_reducible repeat (first | apply Kd.R_alloc | apply Kd.R_drewN | apply Kd.R_drew)); exact HO313.out) hg hat); have n2_ := Aside0.mk (hb); have n3_ := Aside0.mk (ho); clear BK309; clear HO313; clear HB; clear HO320; have BK309 := n0_; have HO313 := n1_; have HB := n2_; have HO323 := n3_; clear n0_ n1_ n2_ n3_; clear ho hb hg hat; have hcz71_0 : w70.cell? ⟨gb309, 0, none⟩ = some (.int .u64 a0_0) := (blk_cell BK309.out 0).trans rfl; have hcz71_1 : w70.cell? ⟨gb309, 1, none⟩ = some (.slice A0_1 l0_1.length c0_1) := (blk_cell BK309.out 1).trans rfl; have hcz71_2 : w70.cell? ⟨gb309, 2, none⟩ = some (.slice A0_2 l0_2.length c0_2) := (blk_cell BK309.out 2).trans rfl; have hfz71_0 := blk_frozen BK309.out 0; have hfz71_1 := blk_frozen BK309.out 1; have hfz71_2 := blk_frozen BK309.out 2; obtain ⟨Ao72, co72, eo72⟩ := Kd.R_slice HO323.out; subst eo72) | ((with_reducible refine gate_callee (f := 16) rfl ?_); refine goesL_ (some 41) rfl rfl Try.func16 (by kernel_rfl) rfl #[.slice Ao72 y321.length co72, .int .u64 a0_0] rfl (by (try simp only [List.map_toArray, List.map_cons, List.map_nil]); first | done | rfl | (simp only [List.length_drop, List.length_take]; rfl)) ?_; (with_reducible refine (record_Decode.calls _ _ y321 a0_0 t324 t325 t328 t331 true _ ?side1 ?side2 A9.out).mono ?_); (case side1 => repeat (first | exact (Kd.R_reads' HO323.out).2.2 | (with_reducible refine Kd.C_alloc ?_ _) | (with_reducible refine Kd.C_drewN ?_ _) | (with_reducible refine Kd.C_drew ?_))); (case side2 => exact (Kd.R_reads' HO323.out).2.1); rintro e w73 ⟨v326, v329, rfl, ho0, ho1, hb⟩; refine ⟨_, rfl, ?_⟩; have n0_ := Aside0.mk (Kd.R_below (by (with_reducible repeat (first | apply Kd.R_alloc | apply Kd.R_drewN | apply Kd.R_drew)); exact HO313.out) hb); have n1_ := Aside0.mk (Kd.R_below (by (with_reducible repeat (first | apply Kd.R_alloc | apply Kd.R_drewN | apply Kd.R_drew)); exact HO323.out) hb); have n2_ := Aside0.mk (Kd.S_lower (Kd.S_new' (Kd.S_new' ho0 (Kd.R_lt (by (with_reducible repeat (first | apply Kd.R_alloc | apply Kd.R_drewN | apply Kd.R_drew)); exact HO313.out))) (Kd.R_lt (by (with_reducible repeat (first | apply Kd.R_alloc | apply Kd.R_drewN | apply Kd.R_drew)); exact HO323.out))) (below_size (by repeat (first | (with_reducible first | exact HB.out | apply below_alloc | apply pw_below_drewN | apply below_drew1 | refine below_set ?_ GE309.out) | exact HB.out)))); have n3_ := Aside0.mk (Kd.R_lower ho1 (below_size (by repeat (first | (with_reducible first | exact HB.out | apply below_alloc | apply pw_below_drewN | apply below_drew1 | refine below_set ?_ GE309.out) | exact HB.out)))); have n4_ := Aside0.mk (blk_below (g := gb309) (o := .cells #[.int .u64 a0_0, .slice A0_1 l0_1.length c0_1, .slice A0_2 l0_2.length c0_2] 26 (0, 0)) (by (with_reducible repeat (first | refine blk_drewN ?_ _ | refine blk_drew ?_ | refine blk_alloc ?_ _)); exact BK309.out) hb); have n5_ := Aside0.mk (below_step (by repeat (first | (with_reducible first | exact HB.out | apply below_alloc | apply pw_below_drewN | apply below_drew1 | refine below_set ?_ GE309.out) | exact HB.out)) hb); clear HO313; clear HO323; clear BK309; clear HB; have HO313 := n0_; have HO323 := n1_; have HO327 := n2_; have HO330 := n3_; have BK309 := n4_; have HB := n5_; clear n0_ n1_ n2_ n3_ n4_ n5_; (try clear hb); (try clear hb2); (try clear hk); (try clear hi); (try clear ho0); (try clear ho1)) | ((with_reducible refine gate_dst (N := 9) rfl ?_); (try (refine gate_guard (by rfl) ?_; dsimp only)); refine box_event ?hg (N := 9) ?hd (cs := #[.int .u64 0, .slice none 0 0, .slice none 0 0]) (t := 26) ?hr ?_; (case hd => rfl); (case hg => rfl); (case hr => go_simp; first | done | rfl); intro gb333 hg w74 hbox hb; have n0_ := Aside0.mk (Kd.R_below (by (with_reducible repeat (first | apply Kd.R_alloc | apply Kd.R_drewN | apply Kd.R_drew)); exact HO313.out) hb); have n1_ := Aside0.mk (Kd.R_below (by (with_reducible repeat (first | apply Kd.R_alloc | apply Kd.R_drewN | apply Kd.R_drew)); exact HO323.out) hb); have n2_ := Aside0.mk (Kd.S_below (by (with_reducible repeat (first | apply Kd.S_alloc | apply Kd.S_drewN | apply Kd.S_drew)); exact HO327.out) hb); have n3_ := Aside0.mk (Kd.R_below (by (with_reducible repeat (first | apply Kd.R_alloc | apply Kd.R_drewN | apply Kd.R_drew)); exact HO330.out) hb); have n4_ := Aside0.mk (blk_below (g := gb309) (o := .cells #[.int .u64 a0_0, .slice A0_1 l0_1.length c0_1, .slice A0_2 l0_2.length c0_2] 26 (0, 0)) (by (with_reducible repeat (first | refine blk_drewN ?_ _ | refine blk_drew ?_ | refine blk_alloc ?_ _)); exact BK309.out) hb); have n5_ := Aside0.mk (below_step (by repeat (first | (with_reducible first | exact HB.out | apply below_alloc | apply pw_below_drewN | apply below_drew1 | refine below_set ?_ GE309.out) | exact HB.out)) hb); have n6_ := Aside0.mk (hbox); have n7_ := Aside0.mk ((by rw [hg]; exact (below_size (by repeat (first | (with_reducible first | exact HB.out | apply below_alloc | apply pw_below_drewN | apply below_drew1 | refine below_set ?_ GE309.out) | exact HB.out))) : w.heap.size ≤ gb333)); have n8_ := Aside0.mk ((by rw [hg]; exact (below_size (by repeat (first | (with_reducible first | exact HB.out | apply below_alloc | apply pw_below_drewN | apply below_drew1 | refine below_set ?_ GE309.out) | exact HB.out))) : w.heap.size ≤ gb333)); have n9_ := Aside0.mk ((by rw [hg]; exact Nat.ne_of_lt (blk_lt (g := gb309) (o := .cells #[.int .u64 a0_0, .slice A0_1 l0_1.length c0_1, .slice A0_2 l0_2.length c0_2] 26 (0, 0)) (by (with_reducible repeat (first | refine blk_drewN ?_ _ | refine blk_drew ?_ | refine blk_alloc ?_ _)); exact BK309.out)) : gb309 ≠ gb333)); have n10_ := Aside0.mk ((by rw [hg]; exact Nat.ne_of_gt (blk_lt (g := gb309) (o := .cells #[.int .u64 a0_0, .slice A0_1 l0_1.length c0_1, .slice A0_2 l0_2.length c0_2] 26 (0, 0)) (by (with_reducible repeat (first | refine blk_drewN ?_ _ | refine blk_drew ?_ | refine blk_alloc ?_ _)); exact BK309.out)) : gb333 ≠ gb309)); clear HO313; clear HO323; clear HO327; clear HO330; clear BK309; clear HB; have HO313 := n0_; have HO323 := n1_; have HO327 := n2_; have HO330 := n3_; have BK309 := n4_; have HB := n5_; have BK333 := n6_; have GW333 := n7_; have GE333 := n8_; have NB309_333 := n9_; have NB333_309 := n10_; clear n0_ n1_ n2_ n3_ n4_ n5_ n6_ n7_ n8_ n9_ n10_; clear hb hbox hg; have hnb75 := NB333_309.out; have hnc75 := NB309_333.out; have hcz76_0 : w74.cell? ⟨gb333, 0, none⟩ = some (.int .u64 0) := (blk_cell BK333.out 0).trans rfl; have hcz76_1 : w74.cell? ⟨gb333, 1, none⟩ = some (.slice none 0 0) := (blk_cell BK333.out 1).trans rfl; have hcz76_2 : w74.cell? ⟨gb333, 2, none⟩ = some (.slice none 0 0) := (blk_cell BK333.out 2).trans rfl; have hfz76_0 := blk_frozen BK333.out 0; have hfz76_1 := blk_frozen BK333.out 1; have hfz76_2 := blk_frozen BK333.out 2; obtain ⟨Ao77, co77, eo77⟩ := Kd.S_slice HO327.out; subst eo77; obtain ⟨Ao78, co78, eo78⟩ := Kd.R_slice HO330.out; subst eo78; have hcz79_0 : w74.cell? ⟨gb309, 0, none⟩ = some (.int .u64 a0_0) := (blk_cell BK309.out 0).trans rfl; have hcz79_1 : w74.cell? ⟨gb309, 1, none⟩ = some (.slice A0_1 l0_1.length c0_1) := (blk_cell BK309.out 1).trans rfl; have hcz79_2 : w74.cell? ⟨gb309, 2, none⟩ = some (.slice A0_2 l0_2.length c0_2) := (blk_cell BK309.out 2).trans rfl; have hfz79_0 := blk_frozen BK309.out 0; have hfz79_1 := blk_frozen BK309.out 1; have hfz79_2 := blk_frozen BK309.out 2) | ((with_reducible refine gate_callee (f := 16) rfl ?_); refine goesL_ (some 50) rfl rfl Try.func16 (by kernel_rfl) rfl #[.slice Ao72 y321.length co72, .int .u64 (IntKind.u64.wrap (a0_0 + 1))] rfl (by (try simp only [List.map_toArray, List.map_cons, List.map_nil]); first | done | rfl | (simp only [List.length_drop, List.length_take]; rfl)) ?_; (with_reducible refine (record_Decode.calls _ _ y321 (IntKind.u64.wrap (a0_0 + 1)) t334 t335 t338 t341 false _ ?side1 ?side2 A10.out).mono ?_); (case side1 => refine (Kd.R_reads' (e := 5) (base := w.heap.size) (ok := fun k_ => some k_ ≠ (.slice Ao66 t311.length co66 : Value).ownBlock) (n := y321.length) (c := co72) ?_).2.2; exact (by (with_reducible repeat (first | apply Kd.R_alloc | apply Kd.R_drewN | apply Kd.R_drew)); exact (Kd.R_mono (Kd.R_far (p := ⟨gb333, 2, none⟩) (Kd.R_far (p := ⟨gb333, 1, none⟩) (Kd.R_far (p := ⟨gb333, 0, none⟩) (Kd.R_types HO323.out BK333.out (by decide)) (fun _ hk => hk.2) (.int .u64 t324)) (fun _ hk => hk.2) (.slice Ao77 t325.length co77)) (fun _ hk => hk.2) (.slice Ao78 t328.length co78)) (fun _ h_ => h_.1)))); (case side2 => exact (Kd.R_reads' HO323.out).2.1); rintro e w80 ⟨v336, v339, rfl, ho0, ho1, hb⟩; refine ⟨_, rfl, ?_⟩; have n0_ := Aside0.mk (Kd.R_below (by (with_reducible repeat (first | apply Kd.R_alloc | apply Kd.R_drewN | apply Kd.R_drew)); exact (Kd.R_mono (Kd.R_far (p := ⟨gb333, 2, none⟩) (Kd.R_far (p := ⟨gb333, 1, none⟩) (Kd.R_far (p := ⟨gb333, 0, none⟩) (Kd.R_types HO313.out BK333.out (by decide)) (fun _ hk => hk.2) (.int .u64 t324)) (fun _ hk => hk.2) (.slice Ao77 t325.length co77)) (fun _ hk => hk.2) (.slice Ao78 t328.length co78)) (fun _ h_ => h_.1))) hb); have n1_ := Aside0.mk (Kd.R_below (by (with_reducible repeat (first | apply Kd.R_alloc | apply Kd.R_drewN | apply Kd.R_drew)); exact (Kd.R_mono (Kd.R_far (p := ⟨gb333, 2, none⟩) (Kd.R_far (p := ⟨gb333, 1, none⟩) (Kd.R_far (p := ⟨gb333, 0, none⟩) (Kd.R_types HO323.out BK333.out (by decide)) (fun _ hk => hk.2) (.int .u64 t324)) (fun _ hk => hk.2) (.slice Ao77 t325.length co77)) (fun _ hk => hk.2) (.slice Ao78 t328.length co78)) (fun _ h_ => h_.1))) hb); have n2_ := Aside0.mk (Kd.S_elder' (by (with_reducible repeat (first | apply Kd.S_alloc | apply Kd.S_drewN | apply Kd.S_drew)); exact (Kd.S_mono (Kd.S_far (p := ⟨gb333, 2, none⟩) (Kd.S_far (p := ⟨gb333, 1, none⟩) (Kd.S_far (p := ⟨gb333, 0, none⟩) (Kd.S_types HO327.out BK333.out (by decide)) (fun _ hk => hk.2) (.int .u64 t324)) (fun _ hk => hk.2) (.slice Ao77 t325.length co77)) (fun _ hk => hk.2) (.slice Ao78 t328.length co78)) (fun _ h_ => h_.1))) (Kd.S_base ho0) hb); have n3_ := Aside0.mk (Kd.R_elder' (by (with_reducible repeat (first | apply Kd.R_alloc | apply Kd.R_drewN | apply Kd.R_drew)); exact (Kd.R_mono (Kd.R_far (p := ⟨gb333, 2, none⟩) (Kd.R_far (p := ⟨gb333, 1, none⟩) (Kd.R_far (p := ⟨gb333, 0, none⟩) (Kd.R_types HO330.out BK333.out (by decide)) (fun _ hk => hk.2) (.int .u64 t324)) (fun _ hk => hk.2) (.slice Ao77 t325.length co77)) (fun _ hk => hk.2) (.slice Ao78 t328.length co78)) (fun _ h_ => h_.1))) (Kd.R_base ho1) hb); have n4_ := Aside0.mk (Kd.S_lower (Kd.S_new' (Kd.S_new' (Kd.S_new' ho0 (Kd.R_lt (by (with_reducible repeat (first | apply Kd.R_alloc | apply Kd.R_drewN | apply Kd.R_drew)); exact (Kd.R_mono (Kd.R_far (p := ⟨gb333, 2, none⟩) (Kd.R_far (p := ⟨gb333, 1, none⟩) (Kd.R_far (p := ⟨gb333, 0, none⟩) (Kd.R_types HO313.out BK333.out (by decide)) (fun _ hk => hk.2) (.int .u64 t324)) (fun _ hk => hk.2) (.slice Ao77 t325.length co77)) (fun _ hk => hk.2) (.slice Ao78 t328.length co78)) (fun _ h_ => h_.1))))) (Kd.R_lt (by (with_reducible repeat (first | apply Kd.R_alloc | apply Kd.R_drewN | apply Kd.R_drew)); exact (Kd.R_mono (Kd.R_far (p := ⟨gb333, 2, none⟩) (Kd.R_far (p := ⟨gb333, 1, none⟩) (Kd.R_far (p := ⟨gb333, 0, none⟩) (Kd.R_types HO323.out BK333.out (by decide)) (fun _ hk => hk.2) (.int .u64 t324)) (fun _ hk => hk.2) (.slice Ao77 t325.length co77)) (fun _ hk => hk.2) (.slice Ao78 t328.length co78)) (fun _ h_ => h_.1))))) (Kd.S_lt (by (with_reducible repeat (first | apply Kd.S_alloc | apply Kd.S_drewN | apply Kd.S_drew)); exact (Kd.S_mono (Kd.S_far (p := ⟨gb333, 2, none⟩) (Kd.S_far (p := ⟨gb333, 1, none⟩) (Kd.S_far (p := ⟨gb333, 0, none⟩) (Kd.S_types HO327.out BK333.out (by decide)) (fun _ hk => hk.2) (.int .u64 t324)) (fun _ hk => hk.2) (.slice Ao77 t325.length co77)) (fun _ hk => hk.2) (.slice Ao78 t328.length co78)) (fun _ h_ => h_.1))))) (below_size (by repeat (first | (with_reducible first | exact HB.out | apply below_alloc | apply pw_below_drewN | apply below_drew1 | refine below_set ?_ GE309.out | refine below_set ?_ GE333.out) | exact HB.out)))); have n5_ := Aside0.mk (Kd.R_lower (Kd.R_new' ho1 (Kd.R_lt (by (with_reducible repeat (first | apply Kd.R_alloc | apply Kd.R_drewN | apply Kd.R_drew)); exact (Kd.R_mono (Kd.R_far (p := ⟨gb333, 2, none⟩) (Kd.R_far (p := ⟨gb333, 1, none⟩) (Kd.R_far (p := ⟨gb333, 0, none⟩) (Kd.R_types HO330.out BK333.out (by decide)) (fun _ hk => hk.2) (.int .u64 t324)) (fun _ hk => hk.2) (.slice Ao77 t325.length co77)) (fun _ hk => hk.2) (.slice Ao78 t328.length co78)) (fun _ h_ => h_.1))))) (below_size (by repeat (first | (with_reducible first | exact HB.out | apply below_alloc | apply pw_below_drewN | apply below_drew1 | refine below_set ?_ GE309.out | refine below_set ?_ GE333.out) | exact HB.out)))); have n6_ := Aside0.mk (blk_below (g := gb309) (o := .cells #[.int .u64 a0_0, .slice A0_1 l0_1.length c0_1, .slice A0_2 l0_2.length c0_2] 26 (0, 0)) (by (with_reducible repeat (first | refine blk_drewN ?_ _ | refine blk_drew ?_ | refine blk_alloc ?_ _)); refine blk_far ?_ NB309_333.out _; (with_reducible repeat (first | refine blk_drewN ?_ _ | refine blk_drew ?_ | refine blk_alloc ?_ _)); refine blk_far ?_ NB309_333.out _; (with_reducible repeat (first | refine blk_drewN ?_ _ | refine blk_drew ?_ | refine blk_alloc ?_ _)); refine blk_far ?_ NB309_333.out _; (with_reducible repeat (first | refine blk_drewN ?_ _ | refine blk_drew ?_ | refine blk_alloc ?_ _)); exact BK309.out) hb); have n7_ := Aside0.mk (blk_below (g := gb333) (o := .cells #[.int .u64 t324, .slice Ao77 t325.length co77, .slice Ao78 t328.length co78] 26 (0, 0)) (by (with_reducible repeat (first | refine blk_drewN ?_ _ | refine blk_drew ?_ | refine blk_alloc ?_ _)); refine blk_put (cs := #[.int .u64 t324, .slice Ao77 t325.length co77, .slice none 0 0]) ?_ 2 _ rfl; (with_reducible repeat (first | refine blk_drewN ?_ _ | refine blk_drew ?_ | refine blk_alloc ?_ _)); refine blk_put (cs := #[.int .u64 t324, .slice none 0 0, .slice none 0 0]) ?_ 1 _ rfl; (with_reducible repeat (first | refine blk_drewN ?_ _ | refine blk_drew ?_ | refine blk_alloc ?_ _)); refine blk_put (cs := #[.int .u64 0, .slice none 0 0, .slice none 0 0]) ?_ 0 _ rfl; (with_reducible repeat (first | refine blk_drewN ?_ _ | refine blk_drew ?_ | refine blk_alloc ?_ _)); exact BK333.out) hb); have n8_ := Aside0.mk (below_step (by repeat (first | (with_reducible first | exact HB.out | apply below_alloc | apply pw_below_drewN | apply below_drew1 | refine below_set ?_ GE309.out | refine below_set ?_ GE333.out) | exact HB.out)) hb); clear HO313; clear HO323; clear HO327; clear HO330; clear BK309; clear BK333; clear HB; have HO313 := n0_; have HO323 := n1_; have HO327 := n2_; have HO330 := n3_; have HO337 := n4_; have HO340 := n5_; have BK309 := n6_; have BK333 := n7_; have HB := n8_; clear n0_ n1_ n2_ n3_ n4_ n5_ n6_ n7_ n8_; (try clear hb); (try clear hb2); (try clear hk); (try clear hi); (try clear ho0); (try clear ho1)) | ((with_reducible refine gate_dst (N := 12) rfl ?_); (try (refine gate_guard (by rfl) ?_; dsimp only)); refine box_event ?hg (N := 12) ?hd (cs := #[.int .u64 0, .slice none 0 0, .slice none 0 0]) (t := 26) ?hr ?_; (case hd => rfl); (case hg => rfl); (case hr => go_simp; first | done | rfl); intro gb343 hg w81 hbox hb; have n0_ := Aside0.mk (Kd.R_below (by (with_reducible repeat (first | apply Kd.R_alloc | apply Kd.R_drewN | apply Kd.R_drew)); exact HO313.out) hb); have n1_ := Aside0.mk (Kd.R_below (by (with_reducible repeat (first | apply Kd.R_alloc | apply Kd.R_drewN | apply Kd.R_drew)); exact HO323.out) hb); have n2_ := Aside0.mk (Kd.S_below (by (with_reducible repeat (first | apply Kd.S_alloc | apply Kd.S_drewN | apply Kd.S_drew)); exact HO327.out) hb); have n3_ := Aside0.mk (Kd.R_below (by (with_reducible repeat (first | apply Kd.R_alloc | apply Kd.R_drewN | apply Kd.R_drew)); exact HO330.out) hb); have n4_ := Aside0.mk (Kd.S_below (by (with_reducible repeat (first | apply Kd.S_alloc | apply Kd.S_drewN | apply Kd.S_drew)); exact HO337.out) hb); have n5_ := Aside0.mk (Kd.R_below (by (with_reducible repeat (first | apply Kd.R_alloc | apply Kd.R_drewN | apply Kd.R_drew)); exact HO340.out) hb); have n6_ := Aside0.mk (blk_below (g := gb309) (o := .cells #[.int .u64 a0_0, .slice A0_1 l0_1.length c0_1, .slice A0_2 l0_2.length c0_2] 26 (0, 0)) (by (with_reducible repeat (first | refine blk_drewN ?_ _ | refine blk_drew ?_ | refine blk_alloc ?_ _)); exact BK309.out) hb); have n7_ := Aside0.mk (blk_below (g := gb333) (o := .cells #[.int .u64 t324, .slice Ao77 t325.length co77, .slice Ao78 t328.length co78] 26 (0, 0)) (by (with_reducible repeat (first | refine blk_drewN ?_ _ | refine blk_drew ?_ | refine blk_alloc ?_ _)); exact BK333.out) hb); have n8_ := Aside0.mk (below_step (by repeat (first | (with_reducible first | exact HB.out | apply below_alloc | apply pw_below_drewN | apply below_drew1 | refine below_set ?_ GE309.out | refine below_set ?_ GE333.out) | exact HB.out)) hb); have n9_ := Aside0.mk (hbox); have n10_ := Aside0.mk ((by rw [hg]; exact (below_size (by repeat (first | (with_reducible first | exact HB.out | apply below_alloc | apply pw_below_drewN | apply below_drew1 | refine below_set ?_ GE309.out | refine below_set ?_ GE333.out) | exact HB.out))) : w.heap.size ≤ gb343)); have n11_ := Aside0.mk ((by rw [hg]; exact (below_size (by repeat (first | (with_reducible first | exact HB.out | apply below_alloc | apply pw_below_drewN | apply below_drew1 | refine below_set ?_ GE309.out | refine below_set ?_ GE333.out) | exact HB.out))) : w.heap.size ≤ gb343)); have n12_ := Aside0.mk ((by rw [hg]; exact Nat.ne_of_lt (blk_lt (g := gb309) (o := .cells #[.int .u64 a0_0, .slice A0_1 l0_1.length c0_1, .slice A0_2 l0_2.length c0_2] 26 (0, 0)) (by (with_reducible repeat (first | refine blk_drewN ?_ _ | refine blk_drew ?_ | refine blk_alloc ?_ _)); exact BK309.out)) : gb309 ≠ gb343)); have n13_ := Aside0.mk ((by rw [hg]; exact Nat.ne_of_gt (blk_lt (g := gb309) (o := .cells #[.int .u64 a0_0, .slice A0_1 l0_1.length c0_1, .slice A0_2 l0_2.length c0_2] 26 (0, 0)) (by (with_reducible repeat (first | refine blk_drewN ?_ _ | refine blk_drew ?_ | refine blk_alloc ?_ _)); exact BK309.out)) : gb343 ≠ gb309)); have n14_ := Aside0.mk ((by rw [hg]; exact Nat.ne_of_lt (blk_lt (g := gb333) (o := .cells #[.int .u64 t324, .slice Ao77 t325.length co77, .slice Ao78 t328.length co78] 26 (0, 0)) (by (with_reducible repeat (first | refine blk_drewN ?_ _ | refine blk_drew ?_ | refine blk_alloc ?_ _)); exact BK333.out)) : gb333 ≠ gb343)); have n15_ := Aside0.mk ((by rw [hg]; exact Nat.ne_of_gt (blk_lt (g := gb333) (o := .cells #[.int .u64 t324, .slice Ao77 t325.length co77, .slice Ao78 t328.length co78] 26 (0, 0)) (by (with_reducible repeat (first | refine blk_drewN ?_ _ | refine blk_drew ?_ | refine blk_alloc ?_ _)); exact BK333.out)) : gb343 ≠ gb333)); clear HO313; clear HO323; clear HO327; clear HO330; clear HO337; clear HO340; clear BK309; clear BK333; clear HB; have HO313 := n0_; have HO323 := n1_; have HO327 := n2_; have HO330 := n3_; have HO337 := n4_; have HO340 := n5_; have BK309 := n6_; have BK333 := n7_; have HB := n8_; have BK343 := n9_; have GW343 := n10_; have GE343 := n11_; have NB309_343 := n12_; have NB343_309 := n13_; have NB333_343 := n14_; have NB343_333 := n15_; clear n0_ n1_ n2_ n3_ n4_ n5_ n6_ n7_ n8_ n9_ n10_ n11_ n12_ n13_ n14_ n15_; clear hb hbox hg; have hnb82 := NB343_309.out; have hnc82 := NB309_343.out; have hnb83 := NB343_333.out; have hnc83 := NB333_343.out; have hcz84_0 : w81.cell? ⟨gb343, 0, none⟩ = some (.int .u64 0) := (blk_cell BK343.out 0).trans rfl; have hcz84_1 : w81.cell? ⟨gb343, 1, none⟩ = some (.slice none 0 0) := (blk_cell BK343.out 1).trans rfl; have hcz84_2 : w81.cell? ⟨gb343, 2, none⟩ = some (.slice none 0 0) := (blk_cell BK343.out 2).trans rfl; have hfz84_0 := blk_frozen BK343.out 0; have hfz84_1 := blk_frozen BK343.out 1; have hfz84_2 := blk_frozen BK343.out 2; obtain ⟨Ao85, co85, eo85⟩ := Kd.S_slice HO337.out; subst eo85; obtain ⟨Ao86, co86, eo86⟩ := Kd.R_slice HO340.out; subst eo86))
    have n0_ : Aside0 (Kd.R (Kd.int .u8) 5 (((w81.setCell ⟨gb343, 0, none⟩ (.int .u64 t334)).setCell ⟨gb343, 1, none⟩ (.slice Ao85 t335.length co85)).setCell ⟨gb343, 2, none⟩ (.slice Ao86 t338.length co86)) w.heap.size (fun k_ => some k_ ≠ (.slice Ao72 y321.length co72 : Value).ownBlock) (.slice Ao66 t311.length co66) t311) := ⟨by (with_reducible repeat (first | apply Kd.R_alloc | apply Kd.R_drewN | apply Kd.R_drew)); exact Kd.R_mono (Kd.R_far (p := ⟨gb343, 2, none⟩) (Kd.R_far (p := ⟨gb343, 1, none⟩) (Kd.R_far (p := ⟨gb343, 0, none⟩) (Kd.R_types HO313.out BK343.out (by decide)) (fun _ hk => hk.2) (.int .u64 t334)) (fun _ hk => hk.2) (.slice Ao85 t335.length co85)) (fun _ hk => hk.2) (.slice Ao86 t338.length co86)) (fun _ hk => hk.1.2)⟩
    have n1_ : Aside0 (Kd.R (Kd.int .u8) 5 (((w81.setCell ⟨gb343, 0, none⟩ (.int .u64 t334)).setCell ⟨gb343, 1, none⟩ (.slice Ao85 t335.length co85)).setCell ⟨gb343, 2, none⟩ (.slice Ao86 t338.length co86)) w.heap.size (fun k_ => some k_ ≠ (.slice Ao66 t311.length co66 : Value).ownBlock) (.slice Ao72 y321.length co72) y321) := ⟨by (with_reducible repeat (first | apply Kd.R_alloc | apply Kd.R_drewN | apply Kd.R_drew)); exact Kd.R_mono (Kd.R_far (p := ⟨gb343, 2, none⟩) (Kd.R_far (p := ⟨gb343, 1, none⟩) (Kd.R_far (p := ⟨gb343, 0, none⟩) (Kd.R_types HO323.out BK343.out (by decide)) (fun _ hk => hk.2) (.int .u64 t334)) (fun _ hk => hk.2) (.slice Ao85 t335.length co85)) (fun _ hk => hk.2) (.slice Ao86 t338.length co86)) (fun _ hk => hk.1)⟩
    have n2_ : Aside0 (Kd.S k43 43 (((w81.setCell ⟨gb343, 0, none⟩ (.int .u64 t334)).setCell ⟨gb343, 1, none⟩ (.slice Ao85 t335.length co85)).setCell ⟨gb343, 2, none⟩ (.slice Ao86 t338.length co86)) w.heap.size (fun k_ => some k_ ≠ (.slice Ao66 t311.length co66 : Value).ownBlock ∧ some k_ ≠ (.slice Ao72 y321.length co72 : Value).ownBlock ∧ some k_ ≠ (.slice Ao85 t335.length co85 : Value).ownBlock) (.slice Ao77 t325.length co77) t325) := ⟨by (with_reducible repeat (first | apply Kd.S_alloc | apply Kd.S_drewN | apply Kd.S_drew)); exact Kd.S_mono (Kd.S_far (p := ⟨gb343, 2, none⟩) (Kd.S_far (p := ⟨gb343, 1, none⟩) (Kd.S_far (p := ⟨gb343, 0, none⟩) (Kd.S_types HO327.out BK343.out (by decide)) (fun _ hk => hk.2) (.int .u64 t334)) (fun _ hk => hk.2) (.slice Ao85 t335.length co85)) (fun _ hk => hk.2) (.slice Ao86 t338.length co86)) (fun _ hk => ⟨hk.1.1.1.2, ⟨hk.1.1.2, hk.1.2⟩⟩)⟩
    have n3_ : Aside0 (Kd.R (Kd.int .i64) 3 (((w81.setCell ⟨gb343, 0, none⟩ (.int .u64 t334)).setCell ⟨gb343, 1, none⟩ (.slice Ao85 t335.length co85)).setCell ⟨gb343, 2, none⟩ (.slice Ao86 t338.length co86)) w.heap.size (fun k_ => some k_ ≠ (.slice Ao86 t338.length co86 : Value).ownBlock) (.slice Ao78 t328.length co78) t328) := ⟨by (with_reducible repeat (first | apply Kd.R_alloc | apply Kd.R_drewN | apply Kd.R_drew)); exact Kd.R_mono (Kd.R_far (p := ⟨gb343, 2, none⟩) (Kd.R_far (p := ⟨gb343, 1, none⟩) (Kd.R_far (p := ⟨gb343, 0, none⟩) (Kd.R_types HO330.out BK343.out (by decide)) (fun _ hk => hk.2) (.int .u64 t334)) (fun _ hk => hk.2) (.slice Ao85 t335.length co85)) (fun _ hk => hk.2) (.slice Ao86 t338.length co86)) (fun _ hk => hk.1.2)⟩
    have n4_ : Aside0 (Kd.S k43 43 (((w81.setCell ⟨gb343, 0, none⟩ (.int .u64 t334)).setCell ⟨gb343, 1, none⟩ (.slice Ao85 t335.length co85)).setCell ⟨gb343, 2, none⟩ (.slice Ao86 t338.length co86)) w.heap.size (fun k_ => some k_ ≠ (.slice Ao66 t311.length co66 : Value).ownBlock ∧ some k_ ≠ (.slice Ao72 y321.length co72 : Value).ownBlock ∧ some k_ ≠ (.slice Ao77 t325.length co77 : Value).ownBlock) (.slice Ao85 t335.length co85) t335) := ⟨by (with_reducible repeat (first | apply Kd.S_alloc | apply Kd.S_drewN | apply Kd.S_drew)); exact Kd.S_mono (Kd.S_far (p := ⟨gb343, 2, none⟩) (Kd.S_far (p := ⟨gb343, 1, none⟩) (Kd.S_far (p := ⟨gb343, 0, none⟩) (Kd.S_types HO337.out BK343.out (by decide)) (fun _ hk => hk.2) (.int .u64 t334)) (fun _ hk => hk.2) (.slice Ao85 t335.length co85)) (fun _ hk => hk.2) (.slice Ao86 t338.length co86)) (fun _ hk => ⟨hk.1.1.1.2, ⟨hk.1.1.2, hk.1.2⟩⟩)⟩
    have n5_ : Aside0 (Kd.R (Kd.int .i64) 3 (((w81.setCell ⟨gb343, 0, none⟩ (.int .u64 t334)).setCell ⟨gb343, 1, none⟩ (.slice Ao85 t335.length co85)).setCell ⟨gb343, 2, none⟩ (.slice Ao86 t338.length co86)) w.heap.size (fun k_ => some k_ ≠ (.slice Ao78 t328.length co78 : Value).ownBlock) (.slice Ao86 t338.length co86) t338) := ⟨by (with_reducible repeat (first | apply Kd.R_alloc | apply Kd.R_drewN | apply Kd.R_drew)); exact Kd.R_mono (Kd.R_far (p := ⟨gb343, 2, none⟩) (Kd.R_far (p := ⟨gb343, 1, none⟩) (Kd.R_far (p := ⟨gb343, 0, none⟩) (Kd.R_types HO340.out BK343.out (by decide)) (fun _ hk => hk.2) (.int .u64 t334)) (fun _ hk => hk.2) (.slice Ao85 t335.length co85)) (fun _ hk => hk.2) (.slice Ao86 t338.length co86)) (fun _ hk => hk.1.2)⟩
    have n6_ : Aside0 ((((w81.setCell ⟨gb343, 0, none⟩ (.int .u64 t334)).setCell ⟨gb343, 1, none⟩ (.slice Ao85 t335.length co85)).setCell ⟨gb343, 2, none⟩ (.slice Ao86 t338.length co86)).heap[gb309]? = some (.cells #[.int .u64 a0_0, .slice A0_1 l0_1.length c0_1, .slice A0_2 l0_2.length c0_2] 26 (0, 0))) := ⟨by (with_reducible repeat (first | refine blk_drewN ?_ _ | refine blk_drew ?_ | refine blk_alloc ?_ _)); refine blk_far ?_ NB309_343.out _; (with_reducible repeat (first | refine blk_drewN ?_ _ | refine blk_drew ?_ | refine blk_alloc ?_ _)); refine blk_far ?_ NB309_343.out _; (with_reducible repeat (first | refine blk_drewN ?_ _ | refine blk_drew ?_ | refine blk_alloc ?_ _)); refine blk_far ?_ NB309_343.out _; (with_reducible repeat (first | refine blk_drewN ?_ _ | refine blk_drew ?_ | refine blk_alloc ?_ _)); exact BK309.out⟩
    have n7_ : Aside0 ((((w81.setCell ⟨gb343, 0, none⟩ (.int .u64 t334)).setCell ⟨gb343, 1, none⟩ (.slice Ao85 t335.length co85)).setCell ⟨gb343, 2, none⟩ (.slice Ao86 t338.length co86)).heap[gb333]? = some (.cells #[.int .u64 t324, .slice Ao77 t325.length co77, .slice Ao78 t328.length co78] 26 (0, 0))) := ⟨by (with_reducible repeat (first | refine blk_drewN ?_ _ | refine blk_drew ?_ | refine blk_alloc ?_ _)); refine blk_far ?_ NB333_343.out _; (with_reducible repeat (first | refine blk_drewN ?_ _ | refine blk_drew ?_ | refine blk_alloc ?_ _)); refine blk_far ?_ NB333_343.out _; (with_reducible repeat (first | refine blk_drewN ?_ _ | refine blk_drew ?_ | refine blk_alloc ?_ _)); refine blk_far ?_ NB333_343.out _; (with_reducible repeat (first | refine blk_drewN ?_ _ | refine blk_drew ?_ | refine blk_alloc ?_ _)); exact BK333.out⟩
    have n8_ : Aside0 ((((w81.setCell ⟨gb343, 0, none⟩ (.int .u64 t334)).setCell ⟨gb343, 1, none⟩ (.slice Ao85 t335.length co85)).setCell ⟨gb343, 2, none⟩ (.slice Ao86 t338.length co86)).heap[gb343]? = some (.cells #[.int .u64 t334, .slice Ao85 t335.length co85, .slice Ao86 t338.length co86] 26 (0, 0))) := ⟨by (with_reducible repeat (first | refine blk_drewN ?_ _ | refine blk_drew ?_ | refine blk_alloc ?_ _)); refine blk_put (cs := #[.int .u64 t334, .slice Ao85 t335.length co85, .slice none 0 0]) ?_ 2 _ rfl; (with_reducible repeat (first | refine blk_drewN ?_ _ | refine blk_drew ?_ | refine blk_alloc ?_ _)); refine blk_put (cs := #[.int .u64 t334, .slice none 0 0, .slice none 0 0]) ?_ 1 _ rfl; (with_reducible repeat (first | refine blk_drewN ?_ _ | refine blk_drew ?_ | refine blk_alloc ?_ _)); refine blk_put (cs := #[.int .u64 0, .slice none 0 0, .slice none 0 0]) ?_ 0 _ rfl; (with_reducible repeat (first | refine blk_drewN ?_ _ | refine blk_drew ?_ | refine blk_alloc ?_ _)); exact BK343.out⟩
    have n9_ : Aside0 (Below w.heap.size w (((w81.setCell ⟨gb343, 0, none⟩ (.int .u64 t334)).setCell ⟨gb343, 1, none⟩ (.slice Ao85 t335.length co85)).setCell ⟨gb343, 2, none⟩ (.slice Ao86 t338.length co86))) := ⟨by repeat (first | (with_reducible first | exact HB.out | apply below_alloc | apply pw_below_drewN | apply below_drew1 | refine below_set ?_ GE309.out | refine below_set ?_ GE333.out | refine below_set ?_ GE343.out) | exact HB.out)⟩
    (try clear HO313)
    (try clear HO323)
    (try clear HO327)
    (try clear HO330)
    (try clear HO337)
    (try clear HO340)
    (try clear BK309)
    (try clear BK333)
    (try clear BK343)
    (try clear HB)
    generalize (((w81.setCell ⟨gb343, 0, none⟩ (.int .u64 t334)).setCell ⟨gb343, 1, none⟩ (.slice Ao85 t335.length co85)).setCell ⟨gb343, 2, none⟩ (.slice Ao86 t338.length co86)) = w87 at n0_ n1_ n2_ n3_ n4_ n5_ n6_ n7_ n8_ n9_ ⊢
    have HO313 := n0_
    have HO323 := n1_
    have HO327 := n2_
    have HO330 := n3_
    have HO337 := n4_
    have HO340 := n5_
    have BK309 := n6_
    have BK333 := n7_
    have BK343 := n8_
    have HB := n9_
    clear n0_ n1_ n2_ n3_ n4_ n5_ n6_ n7_ n8_ n9_
    have n0_ := Aside0.mk (Kd.R_drew HO313.out)
    have n1_ := Aside0.mk (Kd.R_drew HO323.out)
    have n2_ := Aside0.mk (Kd.S_drew HO327.out)
    have n3_ := Aside0.mk (Kd.R_drew HO330.out)
    have n4_ := Aside0.mk (Kd.S_drew HO337.out)
    have n5_ := Aside0.mk (Kd.R_drew HO340.out)
    have n6_ := Aside0.mk (blk_drew BK309.out)
    have n7_ := Aside0.mk (blk_drew BK333.out)
    have n8_ := Aside0.mk (blk_drew BK343.out)
    have n9_ := Aside0.mk (below_drew1 HB.out)
    clear HO313
    clear HO323
    clear HO327
    clear HO330
    clear HO337
    clear HO340
    clear BK309
    clear BK333
    clear BK343
    clear HB
    have HO313 := n0_
    have HO323 := n1_
    have HO327 := n2_
    have HO330 := n3_
    have HO337 := n4_
    have HO340 := n5_
    have BK309 := n6_
    have BK333 := n7_
    have BK343 := n8_
    have HB := n9_
    clear n0_ n1_ n2_ n3_ n4_ n5_ n6_ n7_ n8_ n9_
    have q89 : ((ji11) : Int) ≤ ((y321.length : Int) : Int) := of_decide_eq_true (by first | (with_reducible assumption) | assumption)
    obtain ⟨i089, hi089, _, hsz89, _⟩ := info_parts info5
    have hroom89 : y321.length ≤ co72 := (Kd.R_reads' HO323.out).2.1
    have hC89 : Kd.C (Kd.int .u8) _ Ao72 y321.length y321 := (Kd.R_reads' HO323.out).2.2
    have hcut89 := cut_to (P := Try.prog) 29 5 .i64 Try.underlying29 hi089 Ao72 y321.length co72 (ji11) (of_decide_eq_true (by first | (with_reducible assumption) | assumption)) q89 hroom89
    have hr89 := Kd.C_take (m := ((ji11) : Int).toNat) hC89 (by omega)
    have hy89 : y344.length = ((ji11) : Int).toNat := (by rw [Ny344.out, List.length_take]; omega)
    rw [← Ny344.out] at hr89
    rw [← hy89] at hcut89
    have HR347 := Aside0.mk hr89
    have HC347 := Aside0.mk (show y344.length ≤ co72 from by omega)
    clear hr89 hC89 hroom89 hi089 hsz89
    have KY89 := Aside0.mk hy89
    clear hy89
    have KL89 := Aside0.mk (show ((ji11) : Int).toNat ≤ y321.length from by omega)
    replace q89 := eq_true q89
    refine start_ (n := 15) (S := fun w' => w'.cell? ⟨gb309, 0, none⟩ = some (.int .u64 a0_0) ∧ w'.cell? ⟨gb309, 1, none⟩ = some (.slice A0_1 l0_1.length c0_1) ∧ w'.cell? ⟨gb309, 2, none⟩ = some (.slice A0_2 l0_2.length c0_2)) (ds := []) #[false, false, false, false, false, false, false, false, false, false, false, false, false, false, false] (by kernel_rfl) rfl rfl ⟨(blk_cell BK309.out 0).trans rfl, (blk_cell BK309.out 1).trans rfl, (blk_cell BK309.out 2).trans rfl⟩ (fun hHeld => ?_); refine with_tabW undercroftlaw03_RecordBack.tab10 undercroftlaw03_RecordBack.bits10 (fun HT_ HW_ => ?_)
    generalize w87.drew = w88 at HO313 HO323 HO327 HO330 HO337 HO340 BK309 BK333 BK343 HB HR347 hHeld ⊢
    refine pure_ (i := 0) (N := some 55) (v := ?_) (a' := ?_) #[true, false, false, false, false, false, false, false, false, false, false, false, false, false, false] rfl rfl (any_of HT_.out (by kernel_rfl)) (fun _ _ _ h => h) (Or.inl ⟨by rfl, ?_⟩) ?_ ?_
    rotate_left
    · intro w'
      go_simp
      with_reducible rfl
    rotate_left
    · simp only [Act.put, List.setIfInBounds_toArray, List.set_cons_zero, List.set_cons_succ, i64_w, i32_w]
      rfl
    refine pure_ (i := 1) (N := some 56) (v := ?_) (a' := ?_) #[true, true, false, false, false, false, false, false, false, false, false, false, false, false, false] rfl rfl (any_of HT_.out (by kernel_rfl)) (fun _ _ _ h => h) (Or.inl ⟨by rfl, ?_⟩) ?_ ?_
    rotate_left
    · intro w'
      go_simp
      with_reducible rfl
    rotate_left
    · simp only [Act.put, List.setIfInBounds_toArray, List.set_cons_zero, List.set_cons_succ, i64_w, i32_w]
      rfl
    refine pure_ (i := 2) (N := some 57) (v := ?_) (a' := ?_) #[true, true, true, false, false, false, false, false, false, false, false, false, false, false, false] rfl rfl (any_of HT_.out (by kernel_rfl)) (fun _ _ _ h => h) (Or.inl ⟨by rfl, ?_⟩) ?_ ?_
    rotate_left
    · intro w'
      go_simp
      with_reducible rfl
    rotate_left
    · simp only [Act.put, List.setIfInBounds_toArray, List.set_cons_zero, List.set_cons_succ, i64_w, i32_w]
      rfl
    refine pure_ (i := 3) (N := some 58) (v := ?_) (a' := ?_) #[true, true, true, true, false, false, false, false, false, false, false, false, false, false, false] rfl rfl (any_of HT_.out (by kernel_rfl)) (fun _ _ _ h => h) (Or.inl ⟨by rfl, ?_⟩) ?_ ?_
    rotate_left
    · intro w'
      go_simp
      with_reducible rfl
    rotate_left
    · simp only [Act.put, List.setIfInBounds_toArray, List.set_cons_zero, List.set_cons_succ, i64_w, i32_w]
      rfl
    refine pure_ (i := 4) (N := some 59) (v := ?_) (a' := ?_) #[true, true, true, true, true, false, false, false, false, false, false, false, false, false, false] rfl rfl (any_of HT_.out (by kernel_rfl)) (fun _ _ _ h => h) (Or.inl ⟨by rfl, ?_⟩) ?_ ?_
    rotate_left
    · intro w'
      go_simp
      with_reducible rfl
    rotate_left
    · simp only [Act.put, List.setIfInBounds_toArray, List.set_cons_zero, List.set_cons_succ, i64_w, i32_w]
      rfl
    refine take_ (i := 5) (N := some 60) (v := ?_) (a' := ?_) #[true, true, true, true, true, true, false, false, false, false, false, false, false, false, false] rfl rfl (take_ofW HT_.out HW_.out (by kernel_rfl)) (fun _ _ _ h => h) (Or.inl ⟨by rfl, ?_⟩) hHeld ?_ ?_
    rotate_left
    · rintro w' ⟨s0, s1, s2⟩
      go_simp
      with_reducible rfl
    rotate_left
    · simp only [Act.put, List.setIfInBounds_toArray, List.set_cons_zero, List.set_cons_succ, i64_w, i32_w]
      rfl
    refine join_ (σ := Value × Value × Nat) 3 #[true, true, true, true, true, true, true, true, true, true, true, true, false, false, false] (fun s_ => [(61, .tuple #[.agg #[.int .u64 t348, s_.1, s_.2.1], .int .i64 t355, .bool t356]), (15, .pointer (some ⟨s_.2.2, 0, none⟩)), (54, .tuple #[.agg #[.int .u64 t348, s_.1, s_.2.1], .int .i64 t355, .bool t356]), (62, .agg #[.int .u64 t348, s_.1, s_.2.1]), (63, .int .i64 t355), (64, .bool t356)]) (fun s_ w' => (w'.cell? ⟨gb309, 0, none⟩ = some (.int .u64 a0_0) ∧ w'.cell? ⟨gb309, 1, none⟩ = some (.slice A0_1 l0_1.length c0_1) ∧ w'.cell? ⟨gb309, 2, none⟩ = some (.slice A0_2 l0_2.length c0_2)) ∧ (Kd.R (Kd.int .u8) 5 w' w.heap.size (fun k_ => some k_ ≠ (.slice Ao72 y321.length co72 : Value).ownBlock) (.slice Ao66 t311.length co66) t311) ∧ (Kd.R (Kd.int .u8) 5 w' w.heap.size (fun k_ => some k_ ≠ (.slice Ao66 t311.length co66 : Value).ownBlock) (.slice Ao72 y321.length co72) y321) ∧ (Kd.S k43 43 w' w.heap.size (fun k_ => some k_ ≠ (.slice Ao66 t311.length co66 : Value).ownBlock ∧ some k_ ≠ (.slice Ao72 y321.length co72 : Value).ownBlock ∧ some k_ ≠ (.slice Ao85 t335.length co85 : Value).ownBlock ∧ some k_ ≠ (s_.1 : Value).ownBlock) (.slice Ao77 t325.length co77) t325) ∧ (Kd.R (Kd.int .i64) 3 w' w.heap.size (fun k_ => some k_ ≠ (.slice Ao86 t338.length co86 : Value).ownBlock ∧ some k_ ≠ (s_.2.1 : Value).ownBlock) (.slice Ao78 t328.length co78) t328) ∧ (Kd.S k43 43 w' w.heap.size (fun k_ => some k_ ≠ (.slice Ao66 t311.length co66 : Value).ownBlock ∧ some k_ ≠ (.slice Ao72 y321.length co72 : Value).ownBlock ∧ some k_ ≠ (.slice Ao77 t325.length co77 : Value).ownBlock ∧ some k_ ≠ (s_.1 : Value).ownBlock) (.slice Ao85 t335.length co85) t335) ∧ (Kd.R (Kd.int .i64) 3 w' w.heap.size (fun k_ => some k_ ≠ (.slice Ao78 t328.length co78 : Value).ownBlock ∧ some k_ ≠ (s_.2.1 : Value).ownBlock) (.slice Ao86 t338.length co86) t338) ∧ (Kd.S k43 43 w' w.heap.size (fun k_ => some k_ ≠ (.slice Ao66 t311.length co66 : Value).ownBlock ∧ some k_ ≠ (.slice Ao72 y321.length co72 : Value).ownBlock ∧ some k_ ≠ (.slice Ao77 t325.length co77 : Value).ownBlock ∧ some k_ ≠ (.slice Ao85 t335.length co85 : Value).ownBlock) s_.1 t349) ∧ (Kd.R (Kd.int .i64) 3 w' w.heap.size (fun k_ => some k_ ≠ (.slice Ao78 t328.length co78 : Value).ownBlock ∧ some k_ ≠ (.slice Ao86 t338.length co86 : Value).ownBlock) s_.2.1 t352) ∧ (w'.heap[gb309]? = some (.cells #[.int .u64 a0_0, .slice A0_1 l0_1.length c0_1, .slice A0_2 l0_2.length c0_2] 26 (0, 0))) ∧ (w'.heap[gb333]? = some (.cells #[.int .u64 t324, .slice Ao77 t325.length co77, .slice Ao78 t328.length co78] 26 (0, 0))) ∧ (w'.heap[gb343]? = some (.cells #[.int .u64 t334, .slice Ao85 t335.length co85, .slice Ao86 t338.length co86] 26 (0, 0))) ∧ (w'.heap[s_.2.2]? = some (.cells #[.int .u64 0, .slice none 0 0, .slice none 0 0] 26 (0, 0))) ∧ (w.heap.size ≤ s_.2.2) ∧ (w.heap.size ≤ s_.2.2) ∧ (gb309 ≠ s_.2.2) ∧ (s_.2.2 ≠ gb309) ∧ (gb333 ≠ s_.2.2) ∧ (s_.2.2 ≠ gb333) ∧ (gb343 ≠ s_.2.2) ∧ (s_.2.2 ≠ gb343) ∧ (Below w.heap.size w w')) ?_ ?_
    rotate_left
    · intro hCont
      refine two_ (i := 6) (j := 11) (Ni := some 61) (Nj := some 15) #[true, true, true, true, true, true, true, false, false, false, false, false, false, false, false] #[true, true, true, true, true, true, false, false, false, false, false, true, false, false, false] rfl rfl rfl rfl (two_of HT_.out (by kernel_rfl)) (by decide) (by decide) (fun K hK => ?_) (fun K hK => ?_)
      · skip
        refine goes_ Try.func16 (by kernel_rfl) rfl #[.slice Ao72 y344.length co72, .int .u64 a0_0] (by rfl) rfl rfl (by (try simp only [List.map_toArray, List.map_cons, List.map_nil]); first | done | rfl | (simp only [List.length_drop, List.length_take]; rfl)) ?_
        with_reducible refine (record_Decode.calls _ _ y344 a0_0 t348 t349 t352 t355 t356 _ ?side1 ?side2 A14.out).mono ?_
        (case side1 => repeat (first | exact (by repeat (first | (with_reducible exact HR347.out) | (with_reducible refine Kd.C_alloc ?_ _) | (with_reducible refine Kd.C_drewN ?_ _) | (with_reducible refine Kd.C_drew ?_) | exact HR347.out)) | (with_reducible refine Kd.C_alloc ?_ _) | (with_reducible refine Kd.C_drewN ?_ _) | (with_reducible refine Kd.C_drew ?_)))
        (case side2 => exact HC347.out)
        rintro e w90 ⟨v350, v353, rfl, ho0, ho1, hb⟩
        refine ⟨_, rfl, ?_⟩
        have n0_ := Aside0.mk (Kd.R_below (by (with_reducible repeat (first | apply Kd.R_alloc | apply Kd.R_drewN | apply Kd.R_drew)); exact HO313.out) hb)
        have n1_ := Aside0.mk (Kd.R_below (by (with_reducible repeat (first | apply Kd.R_alloc | apply Kd.R_drewN | apply Kd.R_drew)); exact HO323.out) hb)
        have n2_ := Aside0.mk (Kd.S_elder' (by (with_reducible repeat (first | apply Kd.S_alloc | apply Kd.S_drewN | apply Kd.S_drew)); exact HO327.out) (Kd.S_base ho0) hb)
        have n3_ := Aside0.mk (Kd.R_elder' (by (with_reducible repeat (first | apply Kd.R_alloc | apply Kd.R_drewN | apply Kd.R_drew)); exact HO330.out) (Kd.R_base ho1) hb)
        have n4_ := Aside0.mk (Kd.S_elder' (by (with_reducible repeat (first | apply Kd.S_alloc | apply Kd.S_drewN | apply Kd.S_drew)); exact HO337.out) (Kd.S_base ho0) hb)
        have n5_ := Aside0.mk (Kd.R_elder' (by (with_reducible repeat (first | apply Kd.R_alloc | apply Kd.R_drewN | apply Kd.R_drew)); exact HO340.out) (Kd.R_base ho1) hb)
        have n6_ := Aside0.mk (Kd.S_lower (Kd.S_new' (Kd.S_new' (Kd.S_new' (Kd.S_new' ho0 (Kd.R_lt (by (with_reducible repeat (first | apply Kd.R_alloc | apply Kd.R_drewN | apply Kd.R_drew)); exact HO313.out))) (Kd.R_lt (by (with_reducible repeat (first | apply Kd.R_alloc | apply Kd.R_drewN | apply Kd.R_drew)); exact HO323.out))) (Kd.S_lt (by (with_reducible repeat (first | apply Kd.S_alloc | apply Kd.S_drewN | apply Kd.S_drew)); exact HO327.out))) (Kd.S_lt (by (with_reducible repeat (first | apply Kd.S_alloc | apply Kd.S_drewN | apply Kd.S_drew)); exact HO337.out))) (below_size (by repeat (first | (with_reducible first | exact HB.out | apply below_alloc | apply pw_below_drewN | apply below_drew1 | refine below_set ?_ GE309.out | refine below_set ?_ GE333.out | refine below_set ?_ GE343.out) | exact HB.out))))
        have n7_ := Aside0.mk (Kd.R_lower (Kd.R_new' (Kd.R_new' ho1 (Kd.R_lt (by (with_reducible repeat (first | apply Kd.R_alloc | apply Kd.R_drewN | apply Kd.R_drew)); exact HO330.out))) (Kd.R_lt (by (with_reducible repeat (first | apply Kd.R_alloc | apply Kd.R_drewN | apply Kd.R_drew)); exact HO340.out))) (below_size (by repeat (first | (with_reducible first | exact HB.out | apply below_alloc | apply pw_below_drewN | apply below_drew1 | refine below_set ?_ GE309.out | refine below_set ?_ GE333.out | refine below_set ?_ GE343.out) | exact HB.out))))
        have n8_ := Aside0.mk (blk_below (g := gb309) (o := .cells #[.int .u64 a0_0, .slice A0_1 l0_1.length c0_1, .slice A0_2 l0_2.length c0_2] 26 (0, 0)) (by (with_reducible repeat (first | refine blk_drewN ?_ _ | refine blk_drew ?_ | refine blk_alloc ?_ _)); exact BK309.out) hb)
        have n9_ := Aside0.mk (blk_below (g := gb333) (o := .cells #[.int .u64 t324, .slice Ao77 t325.length co77, .slice Ao78 t328.length co78] 26 (0, 0)) (by (with_reducible repeat (first | refine blk_drewN ?_ _ | refine blk_drew ?_ | refine blk_alloc ?_ _)); exact BK333.out) hb)
        have n10_ := Aside0.mk (blk_below (g := gb343) (o := .cells #[.int .u64 t334, .slice Ao85 t335.length co85, .slice Ao86 t338.length co86] 26 (0, 0)) (by (with_reducible repeat (first | refine blk_drewN ?_ _ | refine blk_drew ?_ | refine blk_alloc ?_ _)); exact BK343.out) hb)
        have n11_ := Aside0.mk (Kd.C_below (by repeat (first | (with_reducible exact HR347.out) | (with_reducible refine Kd.C_alloc ?_ _) | (with_reducible refine Kd.C_drewN ?_ _) | (with_reducible refine Kd.C_drew ?_) | exact HR347.out)) hb)
        have n12_ := Aside0.mk (below_step (by repeat (first | (with_reducible first | exact HB.out | apply below_alloc | apply pw_below_drewN | apply below_drew1 | refine below_set ?_ GE309.out | refine below_set ?_ GE333.out | refine below_set ?_ GE343.out) | exact HB.out)) hb)
        clear HO313
        clear HO323
        clear HO327
        clear HO330
        clear HO337
        clear HO340
        clear BK309
        clear BK333
        clear BK343
        clear HR347
        clear HB
        have HO313 := n0_
        have HO323 := n1_
        have HO327 := n2_
        have HO330 := n3_
        have HO337 := n4_
        have HO340 := n5_
        have HO351 := n6_
        have HO354 := n7_
        have BK309 := n8_
        have BK333 := n9_
        have BK343 := n10_
        have HR347 := n11_
        have HB := n12_
        clear n0_ n1_ n2_ n3_ n4_ n5_ n6_ n7_ n8_ n9_ n10_ n11_ n12_
        (try clear hb)
        (try clear hb2)
        (try clear hk)
        (try clear hi)
        (try clear ho0)
        (try clear ho1)
        refine hK.out _ _ ⟨(blk_cell BK309.out 0).trans rfl, (blk_cell BK309.out 1).trans rfl, (blk_cell BK309.out 2).trans rfl⟩ (fun hHeld => ?_)
        clear hK K
        refine norm_ (a' := ?_) ?_ ?_
        rotate_left
        · show Act.put _ (some 61) _ = _
          simp only [Act.put, List.setIfInBounds_toArray, List.set_cons_zero, List.set_cons_succ, i64_w, i32_w]
          rfl
        refine pure_ (i := 7) (N := some 54) (v := ?_) (a' := ?_) #[true, true, true, true, true, true, true, true, false, false, false, false, false, false, false] rfl rfl (any_of HT_.out (by kernel_rfl)) (fun _ _ _ h => h) (Or.inl ⟨by rfl, ?_⟩) ?_ ?_
        rotate_left
        · intro w'
          go_simp
          with_reducible rfl
        rotate_left
        · simp only [Act.put, List.setIfInBounds_toArray, List.set_cons_zero, List.set_cons_succ, i64_w, i32_w]
          rfl
        refine pure_ (i := 8) (N := some 62) (v := ?_) (a' := ?_) #[true, true, true, true, true, true, true, true, true, false, false, false, false, false, false] rfl rfl (any_of HT_.out (by kernel_rfl)) (fun _ _ _ h => h) (Or.inl ⟨by rfl, ?_⟩) ?_ ?_
        rotate_left
        · intro w'
          go_simp
          with_reducible rfl
        rotate_left
        · simp only [Act.put, List.setIfInBounds_toArray, List.set_cons_zero, List.set_cons_succ, i64_w, i32_w]
          rfl
        refine pure_ (i := 9) (N := some 63) (v := ?_) (a' := ?_) #[true, true, true, true, true, true, true, true, true, true, false, false, false, false, false] rfl rfl (any_of HT_.out (by kernel_rfl)) (fun _ _ _ h => h) (Or.inl ⟨by rfl, ?_⟩) ?_ ?_
        rotate_left
        · intro w'
          go_simp
          with_reducible rfl
        rotate_left
        · simp only [Act.put, List.setIfInBounds_toArray, List.set_cons_zero, List.set_cons_succ, i64_w, i32_w]
          rfl
        refine pure_ (i := 10) (N := some 64) (v := ?_) (a' := ?_) #[true, true, true, true, true, true, true, true, true, true, true, false, false, false, false] rfl rfl (any_of HT_.out (by kernel_rfl)) (fun _ _ _ h => h) (Or.inl ⟨by rfl, ?_⟩) ?_ ?_
        rotate_left
        · intro w'
          go_simp
          with_reducible rfl
        rotate_left
        · simp only [Act.put, List.setIfInBounds_toArray, List.set_cons_zero, List.set_cons_succ, i64_w, i32_w]
          rfl
        refine one_ (i := 11) (N := some 15) #[true, true, true, true, true, true, true, true, true, true, true, true, false, false, false] rfl rfl (one_of HT_.out (by kernel_rfl)) (by decide) (fun K hK => ?_)
        refine box_step ?hg (N := 15) ?hd (cs := #[.int .u64 0, .slice none 0 0, .slice none 0 0]) (t := 26) ?hr ?_; (case hd => rfl); (case hg => rfl); (case hr => go_simp; first | done | rfl)
        intro gb357 hg w91 hbox hb
        have n0_ := Aside0.mk (Kd.R_below (by (with_reducible repeat (first | apply Kd.R_alloc | apply Kd.R_drewN | apply Kd.R_drew)); exact HO313.out) hb)
        have n1_ := Aside0.mk (Kd.R_below (by (with_reducible repeat (first | apply Kd.R_alloc | apply Kd.R_drewN | apply Kd.R_drew)); exact HO323.out) hb)
        have n2_ := Aside0.mk (Kd.S_below (by (with_reducible repeat (first | apply Kd.S_alloc | apply Kd.S_drewN | apply Kd.S_drew)); exact HO327.out) hb)
        have n3_ := Aside0.mk (Kd.R_below (by (with_reducible repeat (first | apply Kd.R_alloc | apply Kd.R_drewN | apply Kd.R_drew)); exact HO330.out) hb)
        have n4_ := Aside0.mk (Kd.S_below (by (with_reducible repeat (first | apply Kd.S_alloc | apply Kd.S_drewN | apply Kd.S_drew)); exact HO337.out) hb)
        have n5_ := Aside0.mk (Kd.R_below (by (with_reducible repeat (first | apply Kd.R_alloc | apply Kd.R_drewN | apply Kd.R_drew)); exact HO340.out) hb)
        have n6_ := Aside0.mk (Kd.S_below (by (with_reducible repeat (first | apply Kd.S_alloc | apply Kd.S_drewN | apply Kd.S_drew)); exact HO351.out) hb)
        have n7_ := Aside0.mk (Kd.R_below (by (with_reducible repeat (first | apply Kd.R_alloc | apply Kd.R_drewN | apply Kd.R_drew)); exact HO354.out) hb)
        have n8_ := Aside0.mk (blk_below (g := gb309) (o := .cells #[.int .u64 a0_0, .slice A0_1 l0_1.length c0_1, .slice A0_2 l0_2.length c0_2] 26 (0, 0)) (by (with_reducible repeat (first | refine blk_drewN ?_ _ | refine blk_drew ?_ | refine blk_alloc ?_ _)); exact BK309.out) hb)
        have n9_ := Aside0.mk (blk_below (g := gb333) (o := .cells #[.int .u64 t324, .slice Ao77 t325.length co77, .slice Ao78 t328.length co78] 26 (0, 0)) (by (with_reducible repeat (first | refine blk_drewN ?_ _ | refine blk_drew ?_ | refine blk_alloc ?_ _)); exact BK333.out) hb)
        have n10_ := Aside0.mk (blk_below (g := gb343) (o := .cells #[.int .u64 t334, .slice Ao85 t335.length co85, .slice Ao86 t338.length co86] 26 (0, 0)) (by (with_reducible repeat (first | refine blk_drewN ?_ _ | refine blk_drew ?_ | refine blk_alloc ?_ _)); exact BK343.out) hb)
        have n11_ := Aside0.mk (Kd.C_below (by repeat (first | (with_reducible exact HR347.out) | (with_reducible refine Kd.C_alloc ?_ _) | (with_reducible refine Kd.C_drewN ?_ _) | (with_reducible refine Kd.C_drew ?_) | exact HR347.out)) hb)
        have n12_ := Aside0.mk (below_step (by repeat (first | (with_reducible first | exact HB.out | apply below_alloc | apply pw_below_drewN | apply below_drew1 | refine below_set ?_ GE309.out | refine below_set ?_ GE333.out | refine below_set ?_ GE343.out) | exact HB.out)) hb)
        have n13_ := Aside0.mk (hbox)
        have n14_ := Aside0.mk ((by rw [hg]; exact (below_size (by repeat (first | (with_reducible first | exact HB.out | apply below_alloc | apply pw_below_drewN | apply below_drew1 | refine below_set ?_ GE309.out | refine below_set ?_ GE333.out | refine below_set ?_ GE343.out) | exact HB.out))) : w.heap.size ≤ gb357))
        have n15_ := Aside0.mk ((by rw [hg]; exact (below_size (by repeat (first | (with_reducible first | exact HB.out | apply below_alloc | apply pw_below_drewN | apply below_drew1 | refine below_set ?_ GE309.out | refine below_set ?_ GE333.out | refine below_set ?_ GE343.out) | exact HB.out))) : w.heap.size ≤ gb357))
        have n16_ := Aside0.mk ((by rw [hg]; exact Nat.ne_of_lt (blk_lt (g := gb309) (o := .cells #[.int .u64 a0_0, .slice A0_1 l0_1.length c0_1, .slice A0_2 l0_2.length c0_2] 26 (0, 0)) (by (with_reducible repeat (first | refine blk_drewN ?_ _ | refine blk_drew ?_ | refine blk_alloc ?_ _)); exact BK309.out)) : gb309 ≠ gb357))
        have n17_ := Aside0.mk ((by rw [hg]; exact Nat.ne_of_gt (blk_lt (g := gb309) (o := .cells #[.int .u64 a0_0, .slice A0_1 l0_1.length c0_1, .slice A0_2 l0_2.length c0_2] 26 (0, 0)) (by (with_reducible repeat (first | refine blk_drewN ?_ _ | refine blk_drew ?_ | refine blk_alloc ?_ _)); exact BK309.out)) : gb357 ≠ gb309))
        have n18_ := Aside0.mk ((by rw [hg]; exact Nat.ne_of_lt (blk_lt (g := gb333) (o := .cells #[.int .u64 t324, .slice Ao77 t325.length co77, .slice Ao78 t328.length co78] 26 (0, 0)) (by (with_reducible repeat (first | refine blk_drewN ?_ _ | refine blk_drew ?_ | refine blk_alloc ?_ _)); exact BK333.out)) : gb333 ≠ gb357))
        have n19_ := Aside0.mk ((by rw [hg]; exact Nat.ne_of_gt (blk_lt (g := gb333) (o := .cells #[.int .u64 t324, .slice Ao77 t325.length co77, .slice Ao78 t328.length co78] 26 (0, 0)) (by (with_reducible repeat (first | refine blk_drewN ?_ _ | refine blk_drew ?_ | refine blk_alloc ?_ _)); exact BK333.out)) : gb357 ≠ gb333))
        have n20_ := Aside0.mk ((by rw [hg]; exact Nat.ne_of_lt (blk_lt (g := gb343) (o := .cells #[.int .u64 t334, .slice Ao85 t335.length co85, .slice Ao86 t338.length co86] 26 (0, 0)) (by (with_reducible repeat (first | refine blk_drewN ?_ _ | refine blk_drew ?_ | refine blk_alloc ?_ _)); exact BK343.out)) : gb343 ≠ gb357))
        have n21_ := Aside0.mk ((by rw [hg]; exact Nat.ne_of_gt (blk_lt (g := gb343) (o := .cells #[.int .u64 t334, .slice Ao85 t335.length co85, .slice Ao86 t338.length co86] 26 (0, 0)) (by (with_reducible repeat (first | refine blk_drewN ?_ _ | refine blk_drew ?_ | refine blk_alloc ?_ _)); exact BK343.out)) : gb357 ≠ gb343))
        clear HO313
        clear HO323
        clear HO327
        clear HO330
        clear HO337
        clear HO340
        clear HO351
        clear HO354
        clear BK309
        clear BK333
        clear BK343
        clear HR347
        clear HB
        have HO313 := n0_
        have HO323 := n1_
        have HO327 := n2_
        have HO330 := n3_
        have HO337 := n4_
        have HO340 := n5_
        have HO351 := n6_
        have HO354 := n7_
        have BK309 := n8_
        have BK333 := n9_
        have BK343 := n10_
        have HR347 := n11_
        have HB := n12_
        have BK357 := n13_
        have GW357 := n14_
        have GE357 := n15_
        have NB309_357 := n16_
        have NB357_309 := n17_
        have NB333_357 := n18_
        have NB357_333 := n19_
        have NB343_357 := n20_
        have NB357_343 := n21_
        clear n0_ n1_ n2_ n3_ n4_ n5_ n6_ n7_ n8_ n9_ n10_ n11_ n12_ n13_ n14_ n15_ n16_ n17_ n18_ n19_ n20_ n21_
        clear hb hbox hg
        refine hK.out _ _ ⟨(blk_cell BK309.out 0).trans rfl, (blk_cell BK309.out 1).trans rfl, (blk_cell BK309.out 2).trans rfl⟩ (fun hHeld => ?_)
        clear hK K
        refine norm_ (a' := ?_) ?_ ?_
        rotate_left
        · show Act.put _ (some 15) _ = _
          simp only [Act.put, List.setIfInBounds_toArray, List.set_cons_zero, List.set_cons_succ, i64_w, i32_w]
          rfl
        exact norm_ (by simp only [putAll, Act.put, List.setIfInBounds_toArray, List.set_cons_zero, List.set_cons_succ]) (hCont (v350, v353, gb357) _ ⟨hHeld, (by (with_reducible repeat (first | apply Kd.R_alloc | apply Kd.R_drewN | apply Kd.R_drew)); exact HO313.out), (by (with_reducible repeat (first | apply Kd.R_alloc | apply Kd.R_drewN | apply Kd.R_drew)); exact HO323.out), (by (with_reducible repeat (first | apply Kd.S_alloc | apply Kd.S_drewN | apply Kd.S_drew)); exact Kd.S_mono HO327.out (fun _ hk => ⟨hk.1.1, ⟨hk.1.2.1, ⟨hk.1.2.2, hk.2⟩⟩⟩)), (by (with_reducible repeat (first | apply Kd.R_alloc | apply Kd.R_drewN | apply Kd.R_drew)); exact HO330.out), (by (with_reducible repeat (first | apply Kd.S_alloc | apply Kd.S_drewN | apply Kd.S_drew)); exact Kd.S_mono HO337.out (fun _ hk => ⟨hk.1.1, ⟨hk.1.2.1, ⟨hk.1.2.2, hk.2⟩⟩⟩)), (by (with_reducible repeat (first | apply Kd.R_alloc | apply Kd.R_drewN | apply Kd.R_drew)); exact HO340.out), (by (with_reducible repeat (first | apply Kd.S_alloc | apply Kd.S_drewN | apply Kd.S_drew)); exact Kd.S_mono HO351.out (fun _ hk => ⟨hk.1.1.1.2, ⟨hk.1.1.2, ⟨hk.1.2, hk.2⟩⟩⟩)), (by (with_reducible repeat (first | apply Kd.R_alloc | apply Kd.R_drewN | apply Kd.R_drew)); exact Kd.R_mono HO354.out (fun _ hk => ⟨hk.1.2, hk.2⟩)), (by (with_reducible repeat (first | refine blk_drewN ?_ _ | refine blk_drew ?_ | refine blk_alloc ?_ _)); exact BK309.out), (by (with_reducible repeat (first | refine blk_drewN ?_ _ | refine blk_drew ?_ | refine blk_alloc ?_ _)); exact BK333.out), (by (with_reducible repeat (first | refine blk_drewN ?_ _ | refine blk_drew ?_ | refine blk_alloc ?_ _)); exact BK343.out), (by (with_reducible repeat (first | refine blk_drewN ?_ _ | refine blk_drew ?_ | refine blk_alloc ?_ _)); exact BK357.out), GW357.out, GE357.out, NB309_357.out, NB357_309.out, NB333_357.out, NB357_333.out, NB343_357.out, NB357_343.out, (by repeat (first | (with_reducible first | exact HB.out | apply below_alloc | apply pw_below_drewN | apply below_drew1 | refine below_set ?_ GE309.out | refine below_set ?_ GE333.out | refine below_set ?_ GE343.out | refine below_set ?_ GE357.out) | exact HB.out))⟩)
      · skip
        refine box_step ?hg (N := 15) ?hd (cs := #[.int .u64 0, .slice none 0 0, .slice none 0 0]) (t := 26) ?hr ?_; (case hd => rfl); (case hg => rfl); (case hr => go_simp; first | done | rfl)
        intro gb357 hg w90 hbox hb
        have n0_ := Aside0.mk (Kd.R_below (by (with_reducible repeat (first | apply Kd.R_alloc | apply Kd.R_drewN | apply Kd.R_drew)); exact HO313.out) hb)
        have n1_ := Aside0.mk (Kd.R_below (by (with_reducible repeat (first | apply Kd.R_alloc | apply Kd.R_drewN | apply Kd.R_drew)); exact HO323.out) hb)
        have n2_ := Aside0.mk (Kd.S_below (by (with_reducible repeat (first | apply Kd.S_alloc | apply Kd.S_drewN | apply Kd.S_drew)); exact HO327.out) hb)
        have n3_ := Aside0.mk (Kd.R_below (by (with_reducible repeat (first | apply Kd.R_alloc | apply Kd.R_drewN | apply Kd.R_drew)); exact HO330.out) hb)
        have n4_ := Aside0.mk (Kd.S_below (by (with_reducible repeat (first | apply Kd.S_alloc | apply Kd.S_drewN | apply Kd.S_drew)); exact HO337.out) hb)
        have n5_ := Aside0.mk (Kd.R_below (by (with_reducible repeat (first | apply Kd.R_alloc | apply Kd.R_drewN | apply Kd.R_drew)); exact HO340.out) hb)
        have n6_ := Aside0.mk (blk_below (g := gb309) (o := .cells #[.int .u64 a0_0, .slice A0_1 l0_1.length c0_1, .slice A0_2 l0_2.length c0_2] 26 (0, 0)) (by (with_reducible repeat (first | refine blk_drewN ?_ _ | refine blk_drew ?_ | refine blk_alloc ?_ _)); exact BK309.out) hb)
        have n7_ := Aside0.mk (blk_below (g := gb333) (o := .cells #[.int .u64 t324, .slice Ao77 t325.length co77, .slice Ao78 t328.length co78] 26 (0, 0)) (by (with_reducible repeat (first | refine blk_drewN ?_ _ | refine blk_drew ?_ | refine blk_alloc ?_ _)); exact BK333.out) hb)
        have n8_ := Aside0.mk (blk_below (g := gb343) (o := .cells #[.int .u64 t334, .slice Ao85 t335.length co85, .slice Ao86 t338.length co86] 26 (0, 0)) (by (with_reducible repeat (first | refine blk_drewN ?_ _ | refine blk_drew ?_ | refine blk_alloc ?_ _)); exact BK343.out) hb)
        have n9_ := Aside0.mk (Kd.C_below (by repeat (first | (with_reducible exact HR347.out) | (with_reducible refine Kd.C_alloc ?_ _) | (with_reducible refine Kd.C_drewN ?_ _) | (with_reducible refine Kd.C_drew ?_) | exact HR347.out)) hb)
        have n10_ := Aside0.mk (below_step (by repeat (first | (with_reducible first | exact HB.out | apply below_alloc | apply pw_below_drewN | apply below_drew1 | refine below_set ?_ GE309.out | refine below_set ?_ GE333.out | refine below_set ?_ GE343.out) | exact HB.out)) hb)
        have n11_ := Aside0.mk (hbox)
        have n12_ := Aside0.mk ((by rw [hg]; exact (below_size (by repeat (first | (with_reducible first | exact HB.out | apply below_alloc | apply pw_below_drewN | apply below_drew1 | refine below_set ?_ GE309.out | refine below_set ?_ GE333.out | refine below_set ?_ GE343.out) | exact HB.out))) : w.heap.size ≤ gb357))
        have n13_ := Aside0.mk ((by rw [hg]; exact (below_size (by repeat (first | (with_reducible first | exact HB.out | apply below_alloc | apply pw_below_drewN | apply below_drew1 | refine below_set ?_ GE309.out | refine below_set ?_ GE333.out | refine below_set ?_ GE343.out) | exact HB.out))) : w.heap.size ≤ gb357))
        have n14_ := Aside0.mk ((by rw [hg]; exact Nat.ne_of_lt (blk_lt (g := gb309) (o := .cells #[.int .u64 a0_0, .slice A0_1 l0_1.length c0_1, .slice A0_2 l0_2.length c0_2] 26 (0, 0)) (by (with_reducible repeat (first | refine blk_drewN ?_ _ | refine blk_drew ?_ | refine blk_alloc ?_ _)); exact BK309.out)) : gb309 ≠ gb357))
        have n15_ := Aside0.mk ((by rw [hg]; exact Nat.ne_of_gt (blk_lt (g := gb309) (o := .cells #[.int .u64 a0_0, .slice A0_1 l0_1.length c0_1, .slice A0_2 l0_2.length c0_2] 26 (0, 0)) (by (with_reducible repeat (first | refine blk_drewN ?_ _ | refine blk_drew ?_ | refine blk_alloc ?_ _)); exact BK309.out)) : gb357 ≠ gb309))
        have n16_ := Aside0.mk ((by rw [hg]; exact Nat.ne_of_lt (blk_lt (g := gb333) (o := .cells #[.int .u64 t324, .slice Ao77 t325.length co77, .slice Ao78 t328.length co78] 26 (0, 0)) (by (with_reducible repeat (first | refine blk_drewN ?_ _ | refine blk_drew ?_ | refine blk_alloc ?_ _)); exact BK333.out)) : gb333 ≠ gb357))
        have n17_ := Aside0.mk ((by rw [hg]; exact Nat.ne_of_gt (blk_lt (g := gb333) (o := .cells #[.int .u64 t324, .slice Ao77 t325.length co77, .slice Ao78 t328.length co78] 26 (0, 0)) (by (with_reducible repeat (first | refine blk_drewN ?_ _ | refine blk_drew ?_ | refine blk_alloc ?_ _)); exact BK333.out)) : gb357 ≠ gb333))
        have n18_ := Aside0.mk ((by rw [hg]; exact Nat.ne_of_lt (blk_lt (g := gb343) (o := .cells #[.int .u64 t334, .slice Ao85 t335.length co85, .slice Ao86 t338.length co86] 26 (0, 0)) (by (with_reducible repeat (first | refine blk_drewN ?_ _ | refine blk_drew ?_ | refine blk_alloc ?_ _)); exact BK343.out)) : gb343 ≠ gb357))
        have n19_ := Aside0.mk ((by rw [hg]; exact Nat.ne_of_gt (blk_lt (g := gb343) (o := .cells #[.int .u64 t334, .slice Ao85 t335.length co85, .slice Ao86 t338.length co86] 26 (0, 0)) (by (with_reducible repeat (first | refine blk_drewN ?_ _ | refine blk_drew ?_ | refine blk_alloc ?_ _)); exact BK343.out)) : gb357 ≠ gb343))
        clear HO313
        clear HO323
        clear HO327
        clear HO330
        clear HO337
        clear HO340
        clear BK309
        clear BK333
        clear BK343
        clear HR347
        clear HB
        have HO313 := n0_
        have HO323 := n1_
        have HO327 := n2_
        have HO330 := n3_
        have HO337 := n4_
        have HO340 := n5_
        have BK309 := n6_
        have BK333 := n7_
        have BK343 := n8_
        have HR347 := n9_
        have HB := n10_
        have BK357 := n11_
        have GW357 := n12_
        have GE357 := n13_
        have NB309_357 := n14_
        have NB357_309 := n15_
        have NB333_357 := n16_
        have NB357_333 := n17_
        have NB343_357 := n18_
        have NB357_343 := n19_
        clear n0_ n1_ n2_ n3_ n4_ n5_ n6_ n7_ n8_ n9_ n10_ n11_ n12_ n13_ n14_ n15_ n16_ n17_ n18_ n19_
        clear hb hbox hg
        refine hK.out _ _ ⟨(blk_cell BK309.out 0).trans rfl, (blk_cell BK309.out 1).trans rfl, (blk_cell BK309.out 2).trans rfl⟩ (fun hHeld => ?_)
        clear hK K
        refine norm_ (a' := ?_) ?_ ?_
        rotate_left
        · show Act.put _ (some 15) _ = _
          simp only [Act.put, List.setIfInBounds_toArray, List.set_cons_zero, List.set_cons_succ, i64_w, i32_w]
          rfl
        refine one_ (i := 6) (N := some 61) #[true, true, true, true, true, true, true, false, false, false, false, true, false, false, false] rfl rfl (one_of HT_.out (by kernel_rfl)) (by decide) (fun K hK => ?_)
        refine goes_ Try.func16 (by kernel_rfl) rfl #[.slice Ao72 y344.length co72, .int .u64 a0_0] (by rfl) rfl rfl (by (try simp only [List.map_toArray, List.map_cons, List.map_nil]); first | done | rfl | (simp only [List.length_drop, List.length_take]; rfl)) ?_
        with_reducible refine (record_Decode.calls _ _ y344 a0_0 t348 t349 t352 t355 t356 _ ?side1 ?side2 A14.out).mono ?_
        (case side1 => repeat (first | exact (by repeat (first | (with_reducible exact HR347.out) | (with_reducible refine Kd.C_alloc ?_ _) | (with_reducible refine Kd.C_drewN ?_ _) | (with_reducible refine Kd.C_drew ?_) | exact HR347.out)) | (with_reducible refine Kd.C_alloc ?_ _) | (with_reducible refine Kd.C_drewN ?_ _) | (with_reducible refine Kd.C_drew ?_)))
        (case side2 => exact HC347.out)
        rintro e w91 ⟨v350, v353, rfl, ho0, ho1, hb⟩
        refine ⟨_, rfl, ?_⟩
        have n0_ := Aside0.mk (Kd.R_below (by (with_reducible repeat (first | apply Kd.R_alloc | apply Kd.R_drewN | apply Kd.R_drew)); exact HO313.out) hb)
        have n1_ := Aside0.mk (Kd.R_below (by (with_reducible repeat (first | apply Kd.R_alloc | apply Kd.R_drewN | apply Kd.R_drew)); exact HO323.out) hb)
        have n2_ := Aside0.mk (Kd.S_elder' (by (with_reducible repeat (first | apply Kd.S_alloc | apply Kd.S_drewN | apply Kd.S_drew)); exact HO327.out) (Kd.S_base ho0) hb)
        have n3_ := Aside0.mk (Kd.R_elder' (by (with_reducible repeat (first | apply Kd.R_alloc | apply Kd.R_drewN | apply Kd.R_drew)); exact HO330.out) (Kd.R_base ho1) hb)
        have n4_ := Aside0.mk (Kd.S_elder' (by (with_reducible repeat (first | apply Kd.S_alloc | apply Kd.S_drewN | apply Kd.S_drew)); exact HO337.out) (Kd.S_base ho0) hb)
        have n5_ := Aside0.mk (Kd.R_elder' (by (with_reducible repeat (first | apply Kd.R_alloc | apply Kd.R_drewN | apply Kd.R_drew)); exact HO340.out) (Kd.R_base ho1) hb)
        have n6_ := Aside0.mk (Kd.S_lower (Kd.S_new' (Kd.S_new' (Kd.S_new' (Kd.S_new' ho0 (Kd.R_lt (by (with_reducible repeat (first | apply Kd.R_alloc | apply Kd.R_drewN | apply Kd.R_drew)); exact HO313.out))) (Kd.R_lt (by (with_reducible repeat (first | apply Kd.R_alloc | apply Kd.R_drewN | apply Kd.R_drew)); exact HO323.out))) (Kd.S_lt (by (with_reducible repeat (first | apply Kd.S_alloc | apply Kd.S_drewN | apply Kd.S_drew)); exact HO327.out))) (Kd.S_lt (by (with_reducible repeat (first | apply Kd.S_alloc | apply Kd.S_drewN | apply Kd.S_drew)); exact HO337.out))) (below_size (by repeat (first | (with_reducible first | exact HB.out | apply below_alloc | apply pw_below_drewN | apply below_drew1 | refine below_set ?_ GE309.out | refine below_set ?_ GE333.out | refine below_set ?_ GE343.out | refine below_set ?_ GE357.out) | exact HB.out))))
        have n7_ := Aside0.mk (Kd.R_lower (Kd.R_new' (Kd.R_new' ho1 (Kd.R_lt (by (with_reducible repeat (first | apply Kd.R_alloc | apply Kd.R_drewN | apply Kd.R_drew)); exact HO330.out))) (Kd.R_lt (by (with_reducible repeat (first | apply Kd.R_alloc | apply Kd.R_drewN | apply Kd.R_drew)); exact HO340.out))) (below_size (by repeat (first | (with_reducible first | exact HB.out | apply below_alloc | apply pw_below_drewN | apply below_drew1 | refine below_set ?_ GE309.out | refine below_set ?_ GE333.out | refine below_set ?_ GE343.out | refine below_set ?_ GE357.out) | exact HB.out))))
        have n8_ := Aside0.mk (blk_below (g := gb309) (o := .cells #[.int .u64 a0_0, .slice A0_1 l0_1.length c0_1, .slice A0_2 l0_2.length c0_2] 26 (0, 0)) (by (with_reducible repeat (first | refine blk_drewN ?_ _ | refine blk_drew ?_ | refine blk_alloc ?_ _)); exact BK309.out) hb)
        have n9_ := Aside0.mk (blk_below (g := gb333) (o := .cells #[.int .u64 t324, .slice Ao77 t325.length co77, .slice Ao78 t328.length co78] 26 (0, 0)) (by (with_reducible repeat (first | refine blk_drewN ?_ _ | refine blk_drew ?_ | refine blk_alloc ?_ _)); exact BK333.out) hb)
        have n10_ := Aside0.mk (blk_below (g := gb343) (o := .cells #[.int .u64 t334, .slice Ao85 t335.length co85, .slice Ao86 t338.length co86] 26 (0, 0)) (by (with_reducible repeat (first | refine blk_drewN ?_ _ | refine blk_drew ?_ | refine blk_alloc ?_ _)); exact BK343.out) hb)
        have n11_ := Aside0.mk (Kd.C_below (by repeat (first | (with_reducible exact HR347.out) | (with_reducible refine Kd.C_alloc ?_ _) | (with_reducible refine Kd.C_drewN ?_ _) | (with_reducible refine Kd.C_drew ?_) | exact HR347.out)) hb)
        have n12_ := Aside0.mk (blk_below (g := gb357) (o := .cells #[.int .u64 0, .slice none 0 0, .slice none 0 0] 26 (0, 0)) (by (with_reducible repeat (first | refine blk_drewN ?_ _ | refine blk_drew ?_ | refine blk_alloc ?_ _)); exact BK357.out) hb)
        have n13_ := Aside0.mk (below_step (by repeat (first | (with_reducible first | exact HB.out | apply below_alloc | apply pw_below_drewN | apply below_drew1 | refine below_set ?_ GE309.out | refine below_set ?_ GE333.out | refine below_set ?_ GE343.out | refine below_set ?_ GE357.out) | exact HB.out)) hb)
        clear HO313
        clear HO323
        clear HO327
        clear HO330
        clear HO337
        clear HO340
        clear BK309
        clear BK333
        clear BK343
        clear HR347
        clear BK357
        clear HB
        have HO313 := n0_
        have HO323 := n1_
        have HO327 := n2_
        have HO330 := n3_
        have HO337 := n4_
        have HO340 := n5_
        have HO351 := n6_
        have HO354 := n7_
        have BK309 := n8_
        have BK333 := n9_
        have BK343 := n10_
        have HR347 := n11_
        have BK357 := n12_
        have HB := n13_
        clear n0_ n1_ n2_ n3_ n4_ n5_ n6_ n7_ n8_ n9_ n10_ n11_ n12_ n13_
        (try clear hb)
        (try clear hb2)
        (try clear hk)
        (try clear hi)
        (try clear ho0)
        (try clear ho1)
        refine hK.out _ _ ⟨(blk_cell BK309.out 0).trans rfl, (blk_cell BK309.out 1).trans rfl, (blk_cell BK309.out 2).trans rfl⟩ (fun hHeld => ?_)
        clear hK K
        refine norm_ (a' := ?_) ?_ ?_
        rotate_left
        · show Act.put _ (some 61) _ = _
          simp only [Act.put, List.setIfInBounds_toArray, List.set_cons_zero, List.set_cons_succ, i64_w, i32_w]
          rfl
        refine pure_ (i := 7) (N := some 54) (v := ?_) (a' := ?_) #[true, true, true, true, true, true, true, true, false, false, false, true, false, false, false] rfl rfl (any_of HT_.out (by kernel_rfl)) (fun _ _ _ h => h) (Or.inl ⟨by rfl, ?_⟩) ?_ ?_
        rotate_left
        · intro w'
          go_simp
          with_reducible rfl
        rotate_left
        · simp only [Act.put, List.setIfInBounds_toArray, List.set_cons_zero, List.set_cons_succ, i64_w, i32_w]
          rfl
        refine pure_ (i := 8) (N := some 62) (v := ?_) (a' := ?_) #[true, true, true, true, true, true, true, true, true, false, false, true, false, false, false] rfl rfl (any_of HT_.out (by kernel_rfl)) (fun _ _ _ h => h) (Or.inl ⟨by rfl, ?_⟩) ?_ ?_
        rotate_left
        · intro w'
          go_simp
          with_reducible rfl
        rotate_left
        · simp only [Act.put, List.setIfInBounds_toArray, List.set_cons_zero, List.set_cons_succ, i64_w, i32_w]
          rfl
        refine pure_ (i := 9) (N := some 63) (v := ?_) (a' := ?_) #[true, true, true, true, true, true, true, true, true, true, false, true, false, false, false] rfl rfl (any_of HT_.out (by kernel_rfl)) (fun _ _ _ h => h) (Or.inl ⟨by rfl, ?_⟩) ?_ ?_
        rotate_left
        · intro w'
          go_simp
          with_reducible rfl
        rotate_left
        · simp only [Act.put, List.setIfInBounds_toArray, List.set_cons_zero, List.set_cons_succ, i64_w, i32_w]
          rfl
        refine pure_ (i := 10) (N := some 64) (v := ?_) (a' := ?_) #[true, true, true, true, true, true, true, true, true, true, true, true, false, false, false] rfl rfl (any_of HT_.out (by kernel_rfl)) (fun _ _ _ h => h) (Or.inl ⟨by rfl, ?_⟩) ?_ ?_
        rotate_left
        · intro w'
          go_simp
          with_reducible rfl
        rotate_left
        · simp only [Act.put, List.setIfInBounds_toArray, List.set_cons_zero, List.set_cons_succ, i64_w, i32_w]
          rfl
        exact norm_ (by simp only [putAll, Act.put, List.setIfInBounds_toArray, List.set_cons_zero, List.set_cons_succ]) (hCont (v350, v353, gb357) _ ⟨hHeld, (by (with_reducible repeat (first | apply Kd.R_alloc | apply Kd.R_drewN | apply Kd.R_drew)); exact HO313.out), (by (with_reducible repeat (first | apply Kd.R_alloc | apply Kd.R_drewN | apply Kd.R_drew)); exact HO323.out), (by (with_reducible repeat (first | apply Kd.S_alloc | apply Kd.S_drewN | apply Kd.S_drew)); exact Kd.S_mono HO327.out (fun _ hk => ⟨hk.1.1, ⟨hk.1.2.1, ⟨hk.1.2.2, hk.2⟩⟩⟩)), (by (with_reducible repeat (first | apply Kd.R_alloc | apply Kd.R_drewN | apply Kd.R_drew)); exact HO330.out), (by (with_reducible repeat (first | apply Kd.S_alloc | apply Kd.S_drewN | apply Kd.S_drew)); exact Kd.S_mono HO337.out (fun _ hk => ⟨hk.1.1, ⟨hk.1.2.1, ⟨hk.1.2.2, hk.2⟩⟩⟩)), (by (with_reducible repeat (first | apply Kd.R_alloc | apply Kd.R_drewN | apply Kd.R_drew)); exact HO340.out), (by (with_reducible repeat (first | apply Kd.S_alloc | apply Kd.S_drewN | apply Kd.S_drew)); exact Kd.S_mono HO351.out (fun _ hk => ⟨hk.1.1.1.2, ⟨hk.1.1.2, ⟨hk.1.2, hk.2⟩⟩⟩)), (by (with_reducible repeat (first | apply Kd.R_alloc | apply Kd.R_drewN | apply Kd.R_drew)); exact Kd.R_mono HO354.out (fun _ hk => ⟨hk.1.2, hk.2⟩)), (by (with_reducible repeat (first | refine blk_drewN ?_ _ | refine blk_drew ?_ | refine blk_alloc ?_ _)); exact BK309.out), (by (with_reducible repeat (first | refine blk_drewN ?_ _ | refine blk_drew ?_ | refine blk_alloc ?_ _)); exact BK333.out), (by (with_reducible repeat (first | refine blk_drewN ?_ _ | refine blk_drew ?_ | refine blk_alloc ?_ _)); exact BK343.out), (by (with_reducible repeat (first | refine blk_drewN ?_ _ | refine blk_drew ?_ | refine blk_alloc ?_ _)); exact BK357.out), GW357.out, GE357.out, NB309_357.out, NB357_309.out, NB333_357.out, NB357_333.out, NB343_357.out, NB357_343.out, (by repeat (first | (with_reducible first | exact HB.out | apply below_alloc | apply pw_below_drewN | apply below_drew1 | refine below_set ?_ GE309.out | refine below_set ?_ GE333.out | refine below_set ?_ GE343.out | refine below_set ?_ GE357.out) | exact HB.out))⟩)
    rintro ⟨v350, v353, gb357⟩ w92 ⟨hS_, h0_, h1_, h2_, h3_, h4_, h5_, h6_, h7_, h8_, h9_, h10_, h11_, h12_, h13_, h14_, h15_, h16_, h17_, h18_, h19_, h20_⟩
    have n0_ : Aside0 (Kd.R (Kd.int .u8) 5 w92 w.heap.size (fun k_ => some k_ ≠ (.slice Ao72 y321.length co72 : Value).ownBlock) (.slice Ao66 t311.length co66) t311) := ⟨h0_⟩
    have n1_ : Aside0 (Kd.R (Kd.int .u8) 5 w92 w.heap.size (fun k_ => some k_ ≠ (.slice Ao66 t311.length co66 : Value).ownBlock) (.slice Ao72 y321.length co72) y321) := ⟨h1_⟩
    have n2_ : Aside0 (Kd.S k43 43 w92 w.heap.size (fun k_ => some k_ ≠ (.slice Ao66 t311.length co66 : Value).ownBlock ∧ some k_ ≠ (.slice Ao72 y321.length co72 : Value).ownBlock ∧ some k_ ≠ (.slice Ao85 t335.length co85 : Value).ownBlock ∧ some k_ ≠ (v350 : Value).ownBlock) (.slice Ao77 t325.length co77) t325) := ⟨h2_⟩
    have n3_ : Aside0 (Kd.R (Kd.int .i64) 3 w92 w.heap.size (fun k_ => some k_ ≠ (.slice Ao86 t338.length co86 : Value).ownBlock ∧ some k_ ≠ (v353 : Value).ownBlock) (.slice Ao78 t328.length co78) t328) := ⟨h3_⟩
    have n4_ : Aside0 (Kd.S k43 43 w92 w.heap.size (fun k_ => some k_ ≠ (.slice Ao66 t311.length co66 : Value).ownBlock ∧ some k_ ≠ (.slice Ao72 y321.length co72 : Value).ownBlock ∧ some k_ ≠ (.slice Ao77 t325.length co77 : Value).ownBlock ∧ some k_ ≠ (v350 : Value).ownBlock) (.slice Ao85 t335.length co85) t335) := ⟨h4_⟩
    have n5_ : Aside0 (Kd.R (Kd.int .i64) 3 w92 w.heap.size (fun k_ => some k_ ≠ (.slice Ao78 t328.length co78 : Value).ownBlock ∧ some k_ ≠ (v353 : Value).ownBlock) (.slice Ao86 t338.length co86) t338) := ⟨h5_⟩
    have n6_ : Aside0 (Kd.S k43 43 w92 w.heap.size (fun k_ => some k_ ≠ (.slice Ao66 t311.length co66 : Value).ownBlock ∧ some k_ ≠ (.slice Ao72 y321.length co72 : Value).ownBlock ∧ some k_ ≠ (.slice Ao77 t325.length co77 : Value).ownBlock ∧ some k_ ≠ (.slice Ao85 t335.length co85 : Value).ownBlock) v350 t349) := ⟨h6_⟩
    have n7_ : Aside0 (Kd.R (Kd.int .i64) 3 w92 w.heap.size (fun k_ => some k_ ≠ (.slice Ao78 t328.length co78 : Value).ownBlock ∧ some k_ ≠ (.slice Ao86 t338.length co86 : Value).ownBlock) v353 t352) := ⟨h7_⟩
    have n8_ : Aside0 (w92.heap[gb309]? = some (.cells #[.int .u64 a0_0, .slice A0_1 l0_1.length c0_1, .slice A0_2 l0_2.length c0_2] 26 (0, 0))) := ⟨h8_⟩
    have n9_ : Aside0 (w92.heap[gb333]? = some (.cells #[.int .u64 t324, .slice Ao77 t325.length co77, .slice Ao78 t328.length co78] 26 (0, 0))) := ⟨h9_⟩
    have n10_ : Aside0 (w92.heap[gb343]? = some (.cells #[.int .u64 t334, .slice Ao85 t335.length co85, .slice Ao86 t338.length co86] 26 (0, 0))) := ⟨h10_⟩
    have n11_ : Aside0 (w92.heap[gb357]? = some (.cells #[.int .u64 0, .slice none 0 0, .slice none 0 0] 26 (0, 0))) := ⟨h11_⟩
    have n12_ : Aside0 (w.heap.size ≤ gb357) := ⟨h12_⟩
    have n13_ : Aside0 (w.heap.size ≤ gb357) := ⟨h13_⟩
    have n14_ : Aside0 (gb309 ≠ gb357) := ⟨h14_⟩
    have n15_ : Aside0 (gb357 ≠ gb309) := ⟨h15_⟩
    have n16_ : Aside0 (gb333 ≠ gb357) := ⟨h16_⟩
    have n17_ : Aside0 (gb357 ≠ gb333) := ⟨h17_⟩
    have n18_ : Aside0 (gb343 ≠ gb357) := ⟨h18_⟩
    have n19_ : Aside0 (gb357 ≠ gb343) := ⟨h19_⟩
    have n20_ : Aside0 (Below w.heap.size w w92) := ⟨h20_⟩
    clear HO313
    clear HO323
    clear HO327
    clear HO330
    clear HO337
    clear HO340
    clear BK309
    clear BK333
    clear BK343
    clear HB
    clear h0_ h1_ h2_ h3_ h4_ h5_ h6_ h7_ h8_ h9_ h10_ h11_ h12_ h13_ h14_ h15_ h16_ h17_ h18_ h19_ h20_
    have HO313 := n0_
    have HO323 := n1_
    have HO327 := n2_
    have HO330 := n3_
    have HO337 := n4_
    have HO340 := n5_
    have HO351 := n6_
    have HO354 := n7_
    have BK309 := n8_
    have BK333 := n9_
    have BK343 := n10_
    have BK357 := n11_
    have GW357 := n12_
    have GE357 := n13_
    have NB309_357 := n14_
    have NB357_309 := n15_
    have NB333_357 := n16_
    have NB357_333 := n17_
    have NB343_357 := n18_
    have NB357_343 := n19_
    have HB := n20_
    clear n0_ n1_ n2_ n3_ n4_ n5_ n6_ n7_ n8_ n9_ n10_ n11_ n12_ n13_ n14_ n15_ n16_ n17_ n18_ n19_ n20_
    have hHeld : w92.cell? ⟨gb309, 0, none⟩ = some (.int .u64 a0_0) ∧ w92.cell? ⟨gb309, 1, none⟩ = some (.slice A0_1 l0_1.length c0_1) ∧ w92.cell? ⟨gb309, 2, none⟩ = some (.slice A0_2 l0_2.length c0_2) := hS_
    obtain ⟨Ao94, co94, eo94⟩ := Kd.S_slice HO351.out
    (first | subst eo94 | (injection eo94 with f1_ f2_ f3_; have f4_ := f1_.symm; have f5_ := f3_.symm; clear f1_ f2_ f3_; subst f4_; subst f5_))
    obtain ⟨Ao96, co96, eo96⟩ := Kd.R_slice HO354.out
    (first | subst eo96 | (injection eo96 with f1_ f2_ f3_; have f4_ := f1_.symm; have f5_ := f3_.symm; clear f1_ f2_ f3_; subst f4_; subst f5_))
    refine norm_ (a' := ?_) ?_ ?_
    rotate_left
    · simp only [putAll, Act.put, List.setIfInBounds_toArray, List.set_cons_zero, List.set_cons_succ]
      rfl
    refine one_ (i := 12) (N := none) #[true, true, true, true, true, true, true, true, true, true, true, true, true, false, false] rfl rfl (one_of HT_.out (by kernel_rfl)) (by decide) (fun K hK => ?_)
    have hs93 : w92.cell? ⟨gb357, 0, none⟩ = some (.int .u64 0) := (blk_cell BK357.out 0).trans rfl
    have hfs93 := blk_frozen BK357.out 0
    have hns93_0 := NB309_357.out
    have hns93_1 := NB333_357.out
    have hns93_2 := NB343_357.out
    have hms93_0 := NB357_309.out
    have hms93_1 := NB357_333.out
    have hms93_2 := NB357_343.out
    have hs95 : w92.cell? ⟨gb357, 1, none⟩ = some (.slice none 0 0) := (blk_cell BK357.out 1).trans rfl
    have hfs95 := blk_frozen BK357.out 1
    have hns95_0 := NB309_357.out
    have hns95_1 := NB333_357.out
    have hns95_2 := NB343_357.out
    have hms95_0 := NB357_309.out
    have hms95_1 := NB357_333.out
    have hms95_2 := NB357_343.out
    have hs97 : w92.cell? ⟨gb357, 2, none⟩ = some (.slice none 0 0) := (blk_cell BK357.out 2).trans rfl
    have hfs97 := blk_frozen BK357.out 2
    have hns97_0 := NB309_357.out
    have hns97_1 := NB333_357.out
    have hns97_2 := NB343_357.out
    have hms97_0 := NB357_309.out
    have hms97_1 := NB357_333.out
    have hms97_2 := NB357_343.out
    refine skip_ (w1 := ?_) (by rfl) rfl ?_ ?_
    rotate_left
    · go_simp
      rfl
    refine hK.out _ _ ⟨((cell_far (p := ⟨gb357, _, none⟩) NB309_357.out _).trans (((cell_far (p := ⟨gb357, _, none⟩) NB309_357.out _).trans (((cell_far (p := ⟨gb357, _, none⟩) NB309_357.out _).trans (hHeld.1)))))), ((cell_far (p := ⟨gb357, _, none⟩) NB309_357.out _).trans (((cell_far (p := ⟨gb357, _, none⟩) NB309_357.out _).trans (((cell_far (p := ⟨gb357, _, none⟩) NB309_357.out _).trans (hHeld.2.1)))))), ((cell_far (p := ⟨gb357, _, none⟩) NB309_357.out _).trans (((cell_far (p := ⟨gb357, _, none⟩) NB309_357.out _).trans (((cell_far (p := ⟨gb357, _, none⟩) NB309_357.out _).trans (hHeld.2.2))))))⟩ (fun hHeld => ?_)
    clear hK K
    refine pure_ (i := 13) (N := some 16) (v := ?_) (a' := ?_) #[true, true, true, true, true, true, true, true, true, true, true, true, true, true, false] rfl rfl (any_of HT_.out (by kernel_rfl)) (fun _ _ _ h => h) (Or.inl ⟨by rfl, ?_⟩) ?_ ?_
    rotate_left
    · intro w'
      go_simp
      with_reducible rfl
    rotate_left
    · simp only [Act.put, List.setIfInBounds_toArray, List.set_cons_zero, List.set_cons_succ, i64_w, i32_w]
      rfl
    refine pure_ (i := 14) (N := some 17) (v := ?_) (a' := ?_) #[true, true, true, true, true, true, true, true, true, true, true, true, true, true, true] rfl rfl (any_of HT_.out (by kernel_rfl)) (fun _ _ _ h => h) (Or.inl ⟨by rfl, ?_⟩) ?_ ?_
    rotate_left
    · intro w'
      go_simp
      with_reducible rfl
    rotate_left
    · simp only [Act.put, List.setIfInBounds_toArray, List.set_cons_zero, List.set_cons_succ, i64_w, i32_w]
      rfl
    refine done_ (done_of HT_.out (by kernel_rfl)) ?_
    have hnb98 := NB309_357.out
    have hnc98 := NB357_309.out
    have hcz99_0 : w92.cell? ⟨gb309, 0, none⟩ = some (.int .u64 a0_0) := (blk_cell BK309.out 0).trans rfl
    have hcz99_1 : w92.cell? ⟨gb309, 1, none⟩ = some (.slice A0_1 l0_1.length c0_1) := (blk_cell BK309.out 1).trans rfl
    have hcz99_2 : w92.cell? ⟨gb309, 2, none⟩ = some (.slice A0_2 l0_2.length c0_2) := (blk_cell BK309.out 2).trans rfl
    have hfz99_0 := blk_frozen BK309.out 0
    have hfz99_1 := blk_frozen BK309.out 1
    have hfz99_2 := blk_frozen BK309.out 2
    have hnb100 := NB333_357.out
    have hnc100 := NB357_333.out
    have hcz101_0 : w92.cell? ⟨gb333, 0, none⟩ = some (.int .u64 t324) := (blk_cell BK333.out 0).trans rfl
    have hcz101_1 : w92.cell? ⟨gb333, 1, none⟩ = some (.slice Ao77 t325.length co77) := (blk_cell BK333.out 1).trans rfl
    have hcz101_2 : w92.cell? ⟨gb333, 2, none⟩ = some (.slice Ao78 t328.length co78) := (blk_cell BK333.out 2).trans rfl
    have hfz101_0 := blk_frozen BK333.out 0
    have hfz101_1 := blk_frozen BK333.out 1
    have hfz101_2 := blk_frozen BK333.out 2
    try go_wp2_with (first | (go_at_call 15; (with_reducible refine (undercroftref03_Same.calls k t324 _ _ t325 _ _ t328 a0_0 _ _ l0_1 _ _ l0_2 true _ ?side1 ?side2 ?side3 ?side4 ?side5 ?side6 ?side7 ?side8 A18.out).mono ?_); (case side1 => refine (Kd.S_reads' (e := 43) (base := w.heap.size) (ok := fun k_ => (some k_ ≠ (.slice Ao66 t311.length co66 : Value).ownBlock ∧ (some k_ ≠ (.slice Ao72 y321.length co72 : Value).ownBlock ∧ (some k_ ≠ (.slice Ao85 t335.length co85 : Value).ownBlock ∧ some k_ ≠ (.slice Ao94 t349.length co94 : Value).ownBlock)))) (n := t325.length) (c := co77) ?_).2.2; exact (by (with_reducible repeat (first | apply Kd.S_alloc | apply Kd.S_drewN | apply Kd.S_drew)); exact (Kd.S_mono (Kd.S_far (p := ⟨gb357, 2, none⟩) (Kd.S_far (p := ⟨gb357, 1, none⟩) (Kd.S_far (p := ⟨gb357, 0, none⟩) (Kd.S_types HO327.out BK357.out (by decide)) (fun _ hk => hk.2) (.int .u64 t348)) (fun _ hk => hk.2) (.slice Ao94 t349.length co94)) (fun _ hk => hk.2) (.slice Ao96 t352.length co96)) (fun _ h_ => h_.1)))); (case side2 => exact (Kd.S_reads' HO327.out).2.1); (case side3 => refine (Kd.R_reads' (e := 3) (base := w.heap.size) (ok := fun k_ => (some k_ ≠ (.slice Ao86 t338.length co86 : Value).ownBlock ∧ some k_ ≠ (.slice Ao96 t352.length co96 : Value).ownBlock)) (n := t328.length) (c := co78) ?_).2.2; exact (by (with_reducible repeat (first | apply Kd.R_alloc | apply Kd.R_drewN | apply Kd.R_drew)); exact (Kd.R_mono (Kd.R_far (p := ⟨gb357, 2, none⟩) (Kd.R_far (p := ⟨gb357, 1, none⟩) (Kd.R_far (p := ⟨gb357, 0, none⟩) (Kd.R_types HO330.out BK357.out (by decide)) (fun _ hk => hk.2) (.int .u64 t348)) (fun _ hk => hk.2) (.slice Ao94 t349.length co94)) (fun _ hk => hk.2) (.slice Ao96 t352.length co96)) (fun _ h_ => h_.1)))); (case side4 => exact (Kd.R_reads' HO330.out).2.1); (case side5 => exact Kd.C_below HR0_1.out (by repeat (first | (with_reducible first | exact HB.out | apply below_alloc | apply pw_below_drewN | apply below_drew1 | refine below_set ?_ GE309.out | refine below_set ?_ GE333.out | refine below_set ?_ GE343.out | refine below_set ?_ GE357.out) | exact HB.out))); (case side6 => exact HC0_1.out); (case side7 => exact Kd.C_below HR0_2.out (by repeat (first | (with_reducible first | exact HB.out | apply below_alloc | apply pw_below_drewN | apply below_drew1 | refine below_set ?_ GE309.out | refine below_set ?_ GE333.out | refine below_set ?_ GE343.out | refine below_set ?_ GE357.out) | exact HB.out))); (case side8 => exact HC0_2.out); rintro e w102 ⟨rfl, hb⟩; have n0_ := Aside0.mk (Kd.R_below (by (with_reducible repeat (first | apply Kd.R_alloc | apply Kd.R_drewN | apply Kd.R_drew)); exact (Kd.R_mono (Kd.R_far (p := ⟨gb357, 2, none⟩) (Kd.R_far (p := ⟨gb357, 1, none⟩) (Kd.R_far (p := ⟨gb357, 0, none⟩) (Kd.R_types HO313.out BK357.out (by decide)) (fun _ hk => hk.2) (.int .u64 t348)) (fun _ hk => hk.2) (.slice Ao94 t349.length co94)) (fun _ hk => hk.2) (.slice Ao96 t352.length co96)) (fun _ h_ => h_.1))) hb); have n1_ := Aside0.mk (Kd.R_below (by (with_reducible repeat (first | apply Kd.R_alloc | apply Kd.R_drewN | apply Kd.R_drew)); exact (Kd.R_mono (Kd.R_far (p := ⟨gb357, 2, none⟩) (Kd.R_far (p := ⟨gb357, 1, none⟩) (Kd.R_far (p := ⟨gb357, 0, none⟩) (Kd.R_types HO323.out BK357.out (by decide)) (fun _ hk => hk.2) (.int .u64 t348)) (fun _ hk => hk.2) (.slice Ao94 t349.length co94)) (fun _ hk => hk.2) (.slice Ao96 t352.length co96)) (fun _ h_ => h_.1))) hb); have n2_ := Aside0.mk (Kd.S_below (by (with_reducible repeat (first | apply Kd.S_alloc | apply Kd.S_drewN | apply Kd.S_drew)); exact (Kd.S_mono (Kd.S_far (p := ⟨gb357, 2, none⟩) (Kd.S_far (p := ⟨gb357, 1, none⟩) (Kd.S_far (p := ⟨gb357, 0, none⟩) (Kd.S_types HO327.out BK357.out (by decide)) (fun _ hk => hk.2) (.int .u64 t348)) (fun _ hk => hk.2) (.slice Ao94 t349.length co94)) (fun _ hk => hk.2) (.slice Ao96 t352.length co96)) (fun _ h_ => h_.1))) hb); have n3_ := Aside0.mk (Kd.R_below (by (with_reducible repeat (first | apply Kd.R_alloc | apply Kd.R_drewN | apply Kd.R_drew)); exact (Kd.R_mono (Kd.R_far (p := ⟨gb357, 2, none⟩) (Kd.R_far (p := ⟨gb357, 1, none⟩) (Kd.R_far (p := ⟨gb357, 0, none⟩) (Kd.R_types HO330.out BK357.out (by decide)) (fun _ hk => hk.2) (.int .u64 t348)) (fun _ hk => hk.2) (.slice Ao94 t349.length co94)) (fun _ hk => hk.2) (.slice Ao96 t352.length co96)) (fun _ h_ => h_.1))) hb); have n4_ := Aside0.mk (Kd.S_below (by (with_reducible repeat (first | apply Kd.S_alloc | apply Kd.S_drewN | apply Kd.S_drew)); exact (Kd.S_mono (Kd.S_far (p := ⟨gb357, 2, none⟩) (Kd.S_far (p := ⟨gb357, 1, none⟩) (Kd.S_far (p := ⟨gb357, 0, none⟩) (Kd.S_types HO337.out BK357.out (by decide)) (fun _ hk => hk.2) (.int .u64 t348)) (fun _ hk => hk.2) (.slice Ao94 t349.length co94)) (fun _ hk => hk.2) (.slice Ao96 t352.length co96)) (fun _ h_ => h_.1))) hb); have n5_ := Aside0.mk (Kd.R_below (by (with_reducible repeat (first | apply Kd.R_alloc | apply Kd.R_drewN | apply Kd.R_drew)); exact (Kd.R_mono (Kd.R_far (p := ⟨gb357, 2, none⟩) (Kd.R_far (p := ⟨gb357, 1, none⟩) (Kd.R_far (p := ⟨gb357, 0, none⟩) (Kd.R_types HO340.out BK357.out (by decide)) (fun _ hk => hk.2) (.int .u64 t348)) (fun _ hk => hk.2) (.slice Ao94 t349.length co94)) (fun _ hk => hk.2) (.slice Ao96 t352.length co96)) (fun _ h_ => h_.1))) hb); have n6_ := Aside0.mk (Kd.S_below (by (with_reducible repeat (first | apply Kd.S_alloc | apply Kd.S_drewN | apply Kd.S_drew)); exact (Kd.S_mono (Kd.S_far (p := ⟨gb357, 2, none⟩) (Kd.S_far (p := ⟨gb357, 1, none⟩) (Kd.S_far (p := ⟨gb357, 0, none⟩) (Kd.S_types HO351.out BK357.out (by decide)) (fun _ hk => hk.2) (.int .u64 t348)) (fun _ hk => hk.2) (.slice Ao94 t349.length co94)) (fun _ hk => hk.2) (.slice Ao96 t352.length co96)) (fun _ h_ => h_.1))) hb); have n7_ := Aside0.mk (Kd.R_below (by (with_reducible repeat (first | apply Kd.R_alloc | apply Kd.R_drewN | apply Kd.R_drew)); exact (Kd.R_mono (Kd.R_far (p := ⟨gb357, 2, none⟩) (Kd.R_far (p := ⟨gb357, 1, none⟩) (Kd.R_far (p := ⟨gb357, 0, none⟩) (Kd.R_types HO354.out BK357.out (by decide)) (fun _ hk => hk.2) (.int .u64 t348)) (fun _ hk => hk.2) (.slice Ao94 t349.length co94)) (fun _ hk => hk.2) (.slice Ao96 t352.length co96)) (fun _ h_ => h_.1))) hb); have n8_ := Aside0.mk (blk_below (g := gb309) (o := .cells #[.int .u64 a0_0, .slice A0_1 l0_1.length c0_1, .slice A0_2 l0_2.length c0_2] 26 (0, 0)) (by (with_reducible repeat (first | refine blk_drewN ?_ _ | refine blk_drew ?_ | refine blk_alloc ?_ _)); refine blk_far ?_ NB309_357.out _; (with_reducible repeat (first | refine blk_drewN ?_ _ | refine blk_drew ?_ | refine blk_alloc ?_ _)); refine blk_far ?_ NB309_357.out _; (with_reducible repeat (first | refine blk_drewN ?_ _ | refine blk_drew ?_ | refine blk_alloc ?_ _)); refine blk_far ?_ NB309_357.out _; (with_reducible repeat (first | refine blk_drewN ?_ _ | refine blk_drew ?_ | refine blk_alloc ?_ _)); exact BK309.out) hb); have n9_ := Aside0.mk (blk_below (g := gb333) (o := .cells #[.int .u64 t324, .slice Ao77 t325.length co77, .slice Ao78 t328.length co78] 26 (0, 0)) (by (with_reducible repeat (first | refine blk_drewN ?_ _ | refine blk_drew ?_ | refine blk_alloc ?_ _)); refine blk_far ?_ NB333_357.out _; (with_reducible repeat (first | refine blk_drewN ?_ _ | refine blk_drew ?_ | refine blk_alloc ?_ _)); refine blk_far ?_ NB333_357.out _; (with_reducible repeat (first | refine blk_drewN ?_ _ | refine blk_drew ?_ | refine blk_alloc ?_ _)); refine blk_far ?_ NB333_357.out _; (with_reducible repeat (first | refine blk_drewN ?_ _ | refine blk_drew ?_ | refine blk_alloc ?_ _)); exact BK333.out) hb); have n10_ := Aside0.mk (blk_below (g := gb343) (o := .cells #[.int .u64 t334, .slice Ao85 t335.length co85, .slice Ao86 t338.length co86] 26 (0, 0)) (by (with_reducible repeat (first | refine blk_drewN ?_ _ | refine blk_drew ?_ | refine blk_alloc ?_ _)); refine blk_far ?_ NB343_357.out _; (with_reducible repeat (first | refine blk_drewN ?_ _ | refine blk_drew ?_ | refine blk_alloc ?_ _)); refine blk_far ?_ NB343_357.out _; (with_reducible repeat (first | refine blk_drewN ?_ _ | refine blk_drew ?_ | refine blk_alloc ?_ _)); refine blk_far ?_ NB343_357.out _; (with_reducible repeat (first | refine blk_drewN ?_ _ | refine blk_drew ?_ | refine blk_alloc ?_ _)); exact BK343.out) hb); have n11_ := Aside0.mk (blk_below (g := gb357) (o := .cells #[.int .u64 t348, .slice Ao94 t349.length co94, .slice Ao96 t352.length co96] 26 (0, 0)) (by (with_reducible repeat (first | refine blk_drewN ?_ _ | refine blk_drew ?_ | refine blk_alloc ?_ _)); refine blk_put (cs := #[.int .u64 t348, .slice Ao94 t349.length co94, .slice none 0 0]) ?_ 2 _ rfl; (with_reducible repeat (first | refine blk_drewN ?_ _ | refine blk_drew ?_ | refine blk_alloc ?_ _)); refine blk_put (cs := #[.int .u64 t348, .slice none 0 0, .slice none 0 0]) ?_ 1 _ rfl; (with_reducible repeat (first | refine blk_drewN ?_ _ | refine blk_drew ?_ | refine blk_alloc ?_ _)); refine blk_put (cs := #[.int .u64 0, .slice none 0 0, .slice none 0 0]) ?_ 0 _ rfl; (with_reducible repeat (first | refine blk_drewN ?_ _ | refine blk_drew ?_ | refine blk_alloc ?_ _)); exact BK357.out) hb); have n12_ := Aside0.mk (below_step (by repeat (first | (with_reducible first | exact HB.out | apply below_alloc | apply pw_below_drewN | apply below_drew1 | refine below_set ?_ GE309.out | refine below_set ?_ GE333.out | refine below_set ?_ GE343.out | refine below_set ?_ GE357.out) | exact HB.out)) hb); clear HO313; clear HO323; clear HO327; clear HO330; clear HO337; clear HO340; clear HO351; clear HO354; clear BK309; clear BK333; clear BK343; clear BK357; clear HB; have HO313 := n0_; have HO323 := n1_; have HO327 := n2_; have HO330 := n3_; have HO337 := n4_; have HO340 := n5_; have HO351 := n6_; have HO354 := n7_; have BK309 := n8_; have BK333 := n9_; have BK343 := n10_; have BK357 := n11_; have HB := n12_; clear n0_ n1_ n2_ n3_ n4_ n5_ n6_ n7_ n8_ n9_ n10_ n11_ n12_; (try clear hb); (try clear hb2); (try clear hk); (try clear hi)))
    go_ret
    exact ⟨by first | rfl | (simp [errW_none, errW_some] <;> rfl) | (simp only [← hji11]; first | rfl | (simp [errW_none, errW_some] <;> rfl)) | (simp [*, errW_none, errW_some] <;> rfl), by repeat (first | (with_reducible first | exact HB.out | apply below_alloc | apply pw_below_drewN | apply below_drew1 | refine below_set ?_ GE309.out | refine below_set ?_ GE333.out | refine below_set ?_ GE343.out | refine below_set ?_ GE357.out) | exact HB.out)⟩
  · replace c4 := Bool.eq_false_iff.mpr c4
    subst c4
    have H1 : (some false) = some r := by rw [if_neg (show ¬ (false = true) by decide)] at H; exact H
    clear H
    have H := H1
    clear H1
    exact absurd (Option.some.inj H) (by rw [hT]; decide)

end Go.Proofs.Ytpihpabofgmahaa.U
