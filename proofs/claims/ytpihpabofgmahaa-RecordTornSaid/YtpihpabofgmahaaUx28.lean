/- Written by uprint.py (ours) for this seat: functions of the translation as Lean functions, and what their calls do. Not trusted: Lean checks it. -/
import Derived.Test.YtpihpabofgmahaaUx0
import Derived.Test.YtpihpabofgmahaaUx7
import Derived.Test.YtpihpabofgmahaaUx11
import Derived.Test.YtpihpabofgmahaaUx12
namespace Go.Proofs.Ytpihpabofgmahaa.U
open Go.RowKit Go.Proofs.YtpihpabofgmahaaW.PrintWords Go.Proofs.YtpihpabofgmahaaW.PrintLast Go.Proofs.YtpihpabofgmahaaW.PrintMore
attribute [local go_sem] max2_int min2_int max_two min_two max_three min_three max_four min_four   -- for this text's walks alone
set_option linter.unusedVariables false
set_option linter.unusedSimpArgs false

/-! ### undercroftlaw03_RecordTorn: function 7 -/
def undercroftlaw03_RecordTorn.l0 : Nat → Int → List Int → Int → Bool → Int → Int → List (S43) → List Int → Option (Bool)
  | 0, _, _, _, _, _, _, _, _ => none
  | k + 1, x2, x7, x9, x10, x11, x376000, x376001, x376002 => if x11 < 32 then (if 0 ≤ x11 then (if (Go.bits .and .u32 (shr .u32 x2 x11) 1) = 1 then (if (wrap64 (x9 + x11)) < (wrap64 (8 * (x7.length : Int))) then (if 0 ≤ (wrap64 (Int.tdiv (wrap64 (x9 + x11)) 8)) then (if (wrap64 (Int.tdiv (wrap64 (x9 + x11)) 8)) < (x7.length : Int) then (if 0 ≤ (Int.tmod (wrap64 (x9 + x11)) 8) then (undercroftlaw03_RecordTorn.l0 k x2 (x7.set ((wrap64 (Int.tdiv (wrap64 (x9 + x11)) 8)) : Int).toNat (Go.bits .xor .u8 (rd x7 (wrap64 (Int.tdiv (wrap64 (x9 + x11)) 8))) (shl .u8 1 (Int.tmod (wrap64 (x9 + x11)) 8)))) x9 true (wrap64 (x11 + 1)) x376000 x376001 x376002) else (none)) else (none)) else (none)) else (undercroftlaw03_RecordTorn.l0 k x2 x7 x9 x10 (wrap64 (x11 + 1)) x376000 x376001 x376002)) else (undercroftlaw03_RecordTorn.l0 k x2 x7 x9 x10 (wrap64 (x11 + 1)) x376000 x376001 x376002)) else (none)) else ((record_Decode.f x7 x376000).bind fun bt383 => (some (bt383.2.2.2.2 == (!x10))))
def undercroftlaw03_RecordTorn.j0 : Nat → Int → Int → List Int → Int → Bool → Int → List (S43) → List Int → Option (Bool)
  | 0, _, _, _, _, _, _, _, _ => none
  | k + 1, x1, x2, x7, x8, x29, x376000, x376001, x376002 => if x29 = true then (some (x8 != 0)) else (if (IntKind.u64.wrap (wrap64 (8 * (x7.length : Int)))) = 0 then (none) else (undercroftlaw03_RecordTorn.l0 k x2 x7 (wrap64 (Int.tmod (IntKind.u64.wrap (x1)) (IntKind.u64.wrap (wrap64 (8 * (x7.length : Int)))))) false 0 x376000 x376001 x376002))
def undercroftlaw03_RecordTorn.f (k : Nat) (a0_0 : Int) (l0_1 : List (S43)) (l0_2 : List Int) (a1 : Int) (a2 : Int) : Option (Bool) := (undercroftlaw03_alive.f).bind fun t376 => (if t376 = true then ((record_Encode.f a0_0 l0_1 l0_2).bind fun bt377 => (if bt377.2 = 0 then (undercroftlaw03_RecordTorn.j0 k a1 a2 bt377.1 bt377.2 ((bt377.1.length : Int) == 0) a0_0 l0_1 l0_2) else (undercroftlaw03_RecordTorn.j0 k a1 a2 bt377.1 bt377.2 true a0_0 l0_1 l0_2))) else (some false))
theorem undercroftlaw03_RecordTorn.mono_l : ∀ k, (∀ y0 y1 y2 y3 y4 y5 y6 y7, LeO (undercroftlaw03_RecordTorn.j0 k y0 y1 y2 y3 y4 y5 y6 y7) (undercroftlaw03_RecordTorn.j0 (k + 1) y0 y1 y2 y3 y4 y5 y6 y7)) ∧ (∀ y0 y1 y2 y3 y4 y5 y6 y7, LeO (undercroftlaw03_RecordTorn.l0 k y0 y1 y2 y3 y4 y5 y6 y7) (undercroftlaw03_RecordTorn.l0 (k + 1) y0 y1 y2 y3 y4 y5 y6 y7))
  | 0 => ⟨fun _ _ _ _ _ _ _ _ r h => by simp [undercroftlaw03_RecordTorn.j0] at h, fun _ _ _ _ _ _ _ _ r h => by simp [undercroftlaw03_RecordTorn.l0] at h⟩
  | k + 1 => by
    obtain ⟨ih0, ih1⟩ := undercroftlaw03_RecordTorn.mono_l k
    refine ⟨?_, ?_⟩
    · intro y0 y1 y2 y3 y4 y5 y6 y7
      unfold undercroftlaw03_RecordTorn.j0
      repeat' first
      | (with_reducible exact ih0 _ _ _ _ _ _ _ _)
      | (with_reducible exact ih1 _ _ _ _ _ _ _ _)
      | (with_reducible exact LeO.refl _)
      | (with_reducible exact LeO.none _)
      | (with_reducible refine LeO.ite ?_ ?_)
      | (with_reducible refine LeO.bind ?_ (fun _ => ?_))
      | exact ih0 _ _ _ _ _ _ _ _
      | exact ih1 _ _ _ _ _ _ _ _
      | exact LeO.none _
      | refine LeO.ite ?_ ?_
      | refine LeO.bind ?_ (fun _ => ?_)
    · intro y0 y1 y2 y3 y4 y5 y6 y7
      unfold undercroftlaw03_RecordTorn.l0
      repeat' first
      | (with_reducible exact ih0 _ _ _ _ _ _ _ _)
      | (with_reducible exact ih1 _ _ _ _ _ _ _ _)
      | (with_reducible exact LeO.refl _)
      | (with_reducible exact LeO.none _)
      | (with_reducible refine LeO.ite ?_ ?_)
      | (with_reducible refine LeO.bind ?_ (fun _ => ?_))
      | exact ih0 _ _ _ _ _ _ _ _
      | exact ih1 _ _ _ _ _ _ _ _
      | exact LeO.none _
      | refine LeO.ite ?_ ?_
      | refine LeO.bind ?_ (fun _ => ?_)
theorem undercroftlaw03_RecordTorn.mono : ∀ a0 a1 a2 a3 a4 k, LeO (undercroftlaw03_RecordTorn.f k a0 a1 a2 a3 a4) (undercroftlaw03_RecordTorn.f (k + 1) a0 a1 a2 a3 a4) := by
  intro a0 a1 a2 a3 a4 k
  obtain ⟨ih0, ih1⟩ := undercroftlaw03_RecordTorn.mono_l k
  unfold undercroftlaw03_RecordTorn.f
  repeat' first
      | (with_reducible exact ih0 _ _ _ _ _ _ _ _)
      | (with_reducible exact ih1 _ _ _ _ _ _ _ _)
      | (with_reducible exact LeO.refl _)
      | (with_reducible exact LeO.none _)
      | (with_reducible refine LeO.ite ?_ ?_)
      | (with_reducible refine LeO.bind ?_ (fun _ => ?_))
      | exact ih0 _ _ _ _ _ _ _ _
      | exact ih1 _ _ _ _ _ _ _ _
      | exact LeO.none _
      | refine LeO.ite ?_ ?_
      | refine LeO.bind ?_ (fun _ => ?_)
def undercroftlaw03_RecordTorn.T13 : Bool × List (List Nat × List Nat) := (true, [([], []), ([], []), ([1], [1]), ([0, 2], [0, 2]), ([3], [3]), ([], []), ([5], [5]), ([6], [6]), ([4, 7], [4, 7]), ([0, 2, 0, 1, 2, 3, 4, 5, 6, 7, 8], [0, 2]), ([9, 8, 0, 1, 2, 3, 4, 5, 6, 7, 8], [8, 9])])
def undercroftlaw03_RecordTorn.B13 : List Nat := [0, 0, 2, 7, 15, 0, 32, 96, 255, 511, 1023]
theorem undercroftlaw03_RecordTorn.tab13 : rtab .any (opsOf Try.f7 13) = undercroftlaw03_RecordTorn.T13 := by kernel_rfl
theorem undercroftlaw03_RecordTorn.bits13 : waitsOk undercroftlaw03_RecordTorn.T13.2 undercroftlaw03_RecordTorn.B13 = true := by kernel_rfl
set_option maxHeartbeats 8000000 in
set_option maxRecDepth 100000 in
theorem undercroftlaw03_RecordTorn.calls (k : Nat) (a0_0 : Int) (A0_1 : Option Addr) (c0_1 : Nat) (l0_1 : List (S43)) (A0_2 : Option Addr) (c0_2 : Nat) (l0_2 : List Int) (a1 : Int) (a2 : Int) (r : Bool) (w : World) (hr0_1 : Kd.C k43 w A0_1 l0_1.length l0_1) (hc0_1 : l0_1.length ≤ c0_1) (hr0_2 : Kd.C (Kd.int .i64) w A0_2 l0_2.length l0_2) (hc0_2 : l0_2.length ≤ c0_2) (h : undercroftlaw03_RecordTorn.f k a0_0 l0_1 l0_2 a1 a2 = some r) (hT : r = true) :
    Calls Try.prog 7 #[.agg #[.int .u64 a0_0, .slice A0_1 l0_1.length c0_1, .slice A0_2 l0_2.length c0_2], .int .i64 a1, .int .u32 a2] w fun e w' => e = .returned (.bool r) ∧ Below w.heap.size w w' := by
  have hu26 := Try.underlying26
  have HR0_1 := Aside0.mk hr0_1
  have HC0_1 := Aside0.mk hc0_1
  clear hr0_1 hc0_1
  have HR0_2 := Aside0.mk hr0_2
  have HC0_2 := Aside0.mk hc0_2
  clear hr0_2 hc0_2
  have HB := Aside0.mk (Below.refl w.heap.size w)
  have H : ((undercroftlaw03_alive.f).bind fun t376 => (if t376 = true then ((record_Encode.f a0_0 l0_1 l0_2).bind fun bt377 => (if bt377.2 = 0 then (undercroftlaw03_RecordTorn.j0 k a1 a2 bt377.1 bt377.2 ((bt377.1.length : Int) == 0) a0_0 l0_1 l0_2) else (undercroftlaw03_RecordTorn.j0 k a1 a2 bt377.1 bt377.2 true a0_0 l0_1 l0_2))) else (some false))) = some r := h
  clear h
  replace H := Option.bind_eq_some_iff.mp H
  obtain ⟨t376, A40, H⟩ := H
  replace H : (if t376 = true then ((record_Encode.f a0_0 l0_1 l0_2).bind fun bt377 => (if bt377.2 = 0 then (undercroftlaw03_RecordTorn.j0 k a1 a2 bt377.1 bt377.2 ((bt377.1.length : Int) == 0) a0_0 l0_1 l0_2) else (undercroftlaw03_RecordTorn.j0 k a1 a2 bt377.1 bt377.2 true a0_0 l0_1 l0_2))) else (some false)) = some r := H
  have A4 := Aside0.mk A40
  clear A40
  by_cases c5 : t376 = true
  · subst c5
    have H1 : ((record_Encode.f a0_0 l0_1 l0_2).bind fun bt377 => (if bt377.2 = 0 then (undercroftlaw03_RecordTorn.j0 k a1 a2 bt377.1 bt377.2 ((bt377.1.length : Int) == 0) a0_0 l0_1 l0_2) else (undercroftlaw03_RecordTorn.j0 k a1 a2 bt377.1 bt377.2 true a0_0 l0_1 l0_2))) = some r := by rw [if_pos rfl] at H; exact H
    clear H
    have H := H1
    clear H1
    replace H := Option.bind_eq_some_iff.mp H
    obtain ⟨⟨t377, t380⟩, A60, H⟩ := H
    replace H : (if t380 = 0 then (undercroftlaw03_RecordTorn.j0 k a1 a2 t377 t380 ((t377.length : Int) == 0) a0_0 l0_1 l0_2) else (undercroftlaw03_RecordTorn.j0 k a1 a2 t377 t380 true a0_0 l0_1 l0_2)) = some r := H
    have A6 := Aside0.mk A60
    clear A60
    have HC7 := Aside0.mk H
    clear H
    go_enter Try.func7, Try.ntmps7
    go_upto_region 4 with (first | ((with_reducible refine gate_dst (N := 3) rfl ?_); (try (refine gate_guard (by rfl) ?_; dsimp only)); refine box_event ?hg (N := 3) ?hd (cs := #[.int .u64 a0_0, .slice A0_1 l0_1.length c0_1, .slice A0_2 l0_2.length c0_2]) (t := 26) ?hr ?_; (case hd => rfl); (case hg => rfl); (case hr => go_simp; first | done | rfl); intro gb375 hg w8 hbox hb; have n0_ := Aside0.mk (below_step (by repeat (first | (with_reducible first | exact HB.out | apply below_alloc | apply pw_below_drewN | apply below_drew1) | exact HB.out)) hb); have n1_ := Aside0.mk (hbox); have n2_ := Aside0.mk ((by rw [hg]; exact (below_size (by repeat (first | (with_reducible first | exact HB.out | apply below_alloc | apply pw_below_drewN | apply below_drew1) | exact HB.out))) : w.heap.size ≤ gb375)); have n3_ := Aside0.mk ((by rw [hg]; exact (below_size (by repeat (first | (with_reducible first | exact HB.out | apply below_alloc | apply pw_below_drewN | apply below_drew1) | exact HB.out))) : w.heap.size ≤ gb375)); clear HB; have HB := n0_; have BK375 := n1_; have GW375 := n2_; have GE375 := n3_; clear n0_ n1_ n2_ n3_; clear hb hbox hg) | ((with_reducible refine gate_callee (f := 11) rfl ?_); refine goesL_ (some 16) rfl rfl Try.func11 (by kernel_rfl) rfl #[] rfl (by (try simp only [List.map_toArray, List.map_cons, List.map_nil]); first | done | rfl | (simp only [List.length_drop, List.length_take]; rfl)) ?_; (with_reducible refine (undercroftlaw03_alive.calls  true _ A4.out rfl).mono ?_); rintro e w9 ⟨rfl, hb⟩; refine ⟨_, rfl, ?_⟩; have n0_ := Aside0.mk (blk_below (g := gb375) (o := .cells #[.int .u64 a0_0, .slice A0_1 l0_1.length c0_1, .slice A0_2 l0_2.length c0_2] 26 (0, 0)) (by (with_reducible repeat (first | refine blk_drewN ?_ _ | refine blk_drew ?_ | refine blk_alloc ?_ _)); exact BK375.out) hb); have n1_ := Aside0.mk (below_step (by repeat (first | (with_reducible first | exact HB.out | apply below_alloc | apply pw_below_drewN | apply below_drew1 | refine below_set ?_ GE375.out) | exact HB.out)) hb); clear BK375; clear HB; have BK375 := n0_; have HB := n1_; clear n0_ n1_; (try clear hb); (try clear hb2); (try clear hk); (try clear hi); have hcz10_0 : w9.cell? ⟨gb375, 0, none⟩ = some (.int .u64 a0_0) := (blk_cell BK375.out 0).trans rfl; have hcz10_1 : w9.cell? ⟨gb375, 1, none⟩ = some (.slice A0_1 l0_1.length c0_1) := (blk_cell BK375.out 1).trans rfl; have hcz10_2 : w9.cell? ⟨gb375, 2, none⟩ = some (.slice A0_2 l0_2.length c0_2) := (blk_cell BK375.out 2).trans rfl; have hfz10_0 := blk_frozen BK375.out 0; have hfz10_1 := blk_frozen BK375.out 1; have hfz10_2 := blk_frozen BK375.out 2) | ((with_reducible refine gate_callee (f := 13) rfl ?_); refine goesL_ (some 20) rfl rfl Try.func13 (by kernel_rfl) rfl #[.agg #[.int .u64 a0_0, .slice A0_1 l0_1.length c0_1, .slice A0_2 l0_2.length c0_2]] rfl (by (try simp only [List.map_toArray, List.map_cons, List.map_nil]); first | done | rfl | (simp only [List.length_drop, List.length_take]; rfl)) ?_; (with_reducible refine (record_Encode.calls a0_0 _ _ l0_1 _ _ l0_2 t377 t380 _ ?side1 ?side2 ?side3 ?side4 A6.out).mono ?_); (case side1 => repeat (first | exact (Kd.C_below HR0_1.out HB.out) | (with_reducible refine Kd.C_alloc ?_ _) | (with_reducible refine Kd.C_drewN ?_ _) | (with_reducible refine Kd.C_drew ?_))); (case side2 => exact HC0_1.out); (case side3 => repeat (first | exact (Kd.C_below HR0_2.out HB.out) | (with_reducible refine Kd.C_alloc ?_ _) | (with_reducible refine Kd.C_drewN ?_ _) | (with_reducible refine Kd.C_drew ?_))); (case side4 => exact HC0_2.out); rintro e w11 ⟨v378, rfl, ho0, hb⟩; refine ⟨_, rfl, ?_⟩; have n0_ := Aside0.mk (Kd.R_lower ho0 (below_size (by repeat (first | (with_reducible first | exact HB.out | apply below_alloc | apply pw_below_drewN | apply below_drew1 | refine below_set ?_ GE375.out) | exact HB.out)))); have n1_ := Aside0.mk (blk_below (g := gb375) (o := .cells #[.int .u64 a0_0, .slice A0_1 l0_1.length c0_1, .slice A0_2 l0_2.length c0_2] 26 (0, 0)) (by (with_reducible repeat (first | refine blk_drewN ?_ _ | refine blk_drew ?_ | refine blk_alloc ?_ _)); exact BK375.out) hb); have n2_ := Aside0.mk (below_step (by repeat (first | (with_reducible first | exact HB.out | apply below_alloc | apply pw_below_drewN | apply below_drew1 | refine below_set ?_ GE375.out) | exact HB.out)) hb); clear BK375; clear HB; have HO379 := n0_; have BK375 := n1_; have HB := n2_; clear n0_ n1_ n2_; (try clear hb); (try clear hb2); (try clear hk); (try clear hi); (try clear ho0)))
    (try simp only [Act.put, List.setIfInBounds_toArray, List.set_cons_zero, List.set_cons_succ])
    go_cut [29] (fun v29 wc => ∃ (kq : Nat) (x29_6 : Bool), v29 = .bool x29_6 ∧ Aside0 (undercroftlaw03_RecordTorn.j0 kq a1 a2 t377 t380 x29_6 a0_0 l0_1 l0_2 = some r) ∧ Aside0 (kq ≤ k) ∧ Aside0 (Kd.R (Kd.int .u8) 5 wc w.heap.size (fun _ => True) v378 t377) ∧ Aside0 (wc.heap[gb375]? = some (.cells #[.int .u64 a0_0, (.slice A0_1 l0_1.length c0_1), (.slice A0_2 l0_2.length c0_2)] 26 (0, 0))) ∧ Aside0 (Below w.heap.size w wc))
    case first =>
      have H := HC7.out
      clear HC7
      by_cases c12 : t380 = 0
      rotate_left
      · rw [if_neg c12] at H
        have c12b0 : (t380 == 0) = false := beq_eq_false_iff_ne.mpr c12
        have c12b1 : (t380 != 0) = true := bne_iff_ne.mpr c12
        (first | rw [c12b0] | (simp only [i64_w, i32_w]; rw [c12b0]) | skip)
        have H' := Aside0.mk H
        clear H
        go_wp2
        go_meet
        case rel => exact ⟨_, (true), (by first | rfl | (simp; done) | (simp [*]; done)), H', ⟨by first | omega | exact Nat.le_refl _⟩, ⟨by (with_reducible repeat (first | apply Kd.R_alloc | apply Kd.R_drewN | apply Kd.R_drew)); exact HO379.out⟩, ⟨by (with_reducible repeat (first | refine blk_drewN ?_ _ | refine blk_drew ?_ | refine blk_alloc ?_ _)); exact BK375.out⟩, ⟨by repeat (first | (with_reducible first | exact HB.out | apply below_alloc | apply pw_below_drewN | apply below_drew1 | refine below_set ?_ GE375.out) | exact HB.out)⟩⟩
      rw [if_pos c12] at H
      have c12b0 : (t380 == 0) = true := beq_iff_eq.mpr c12
      have c12b1 : (t380 != 0) = false := bne_eq_false_iff_eq.mpr c12
      clear c12
      (first | rw [c12b0] | (simp only [i64_w, i32_w]; rw [c12b0]) | skip)
      have H' := Aside0.mk H
      clear H
      obtain ⟨Ao13, co13, eo13⟩ := Kd.R_slice HO379.out
      subst eo13
      go_wp2
      go_meet
      case rel => exact ⟨_, (((t377.length : Int) == 0)), (by first | rfl | (simp; done) | (simp [*]; done)), H', ⟨by first | omega | exact Nat.le_refl _⟩, ⟨by (with_reducible repeat (first | apply Kd.R_alloc | apply Kd.R_drewN | apply Kd.R_drew)); exact HO379.out⟩, ⟨by (with_reducible repeat (first | refine blk_drewN ?_ _ | refine blk_drew ?_ | refine blk_alloc ?_ _)); exact BK375.out⟩, ⟨by repeat (first | (with_reducible first | exact HB.out | apply below_alloc | apply pw_below_drewN | apply below_drew1 | refine below_set ?_ GE375.out) | exact HB.out)⟩⟩
    case rest =>
      clear HC7
      try clear c1
      try clear p2
      try clear c5
      try clear c7
      try clear c11
      try clear c12
      try clear c12b0
      try clear c12b1
      try clear c13
      try clear hcz10_0
      try clear hcz10_1
      try clear hcz10_2
      try clear hfz10_0
      try clear hfz10_1
      try clear hfz10_2
      obtain ⟨kq, x29_6, rfl, HA, HJ6, HO_7, BK375, HB⟩ := hcut
      cases kq with
      | zero => exact absurd HA.out (by simp [undercroftlaw03_RecordTorn.j0])
      | succ kj6 =>
        have H := HA.out
        clear HA
        simp only [undercroftlaw03_RecordTorn.j0] at H
        by_cases c14 : x29_6 = true
        · subst c14
          have H1 : (some (t380 != 0)) = some r := by rw [if_pos rfl] at H; exact H
          clear H
          have H := H1
          clear H1
          obtain rfl := Option.some.inj H
          go_wp2
          go_ret
          exact ⟨by first | rfl | (simp [errW_none, errW_some] <;> rfl) | (simp [*, errW_none, errW_some] <;> rfl), by repeat (first | (with_reducible first | exact HB.out | apply below_alloc | apply pw_below_drewN | apply below_drew1 | refine below_set ?_ GE375.out) | exact HB.out)⟩
        replace c14 := Bool.eq_false_iff.mpr c14
        subst c14
        have H1 : (if (IntKind.u64.wrap (wrap64 (8 * (t377.length : Int)))) = 0 then (none) else (undercroftlaw03_RecordTorn.l0 kj6 a2 t377 (wrap64 (Int.tmod (IntKind.u64.wrap (a1)) (IntKind.u64.wrap (wrap64 (8 * (t377.length : Int)))))) false 0 a0_0 l0_1 l0_2)) = some r := by rw [if_neg (show ¬ (false = true) by decide)] at H; exact H
        clear H
        have H := H1
        clear H1
        by_cases c15 : (IntKind.u64.wrap (wrap64 (8 * (t377.length : Int)))) = 0
        · rw [if_pos c15] at H
          exact absurd H (by simp)
        rw [if_neg c15] at H
        have c15b0 : ((IntKind.u64.wrap (wrap64 (8 * (t377.length : Int)))) == 0) = false := beq_eq_false_iff_ne.mpr c15
        try (have c15b0k_ := c15b0; rw [hl7_2] at c15b0k_)
        have c15b1 : ((IntKind.u64.wrap (wrap64 (8 * (t377.length : Int)))) != 0) = true := bne_iff_ne.mpr c15
        try (have c15b1k_ := c15b1; rw [hl7_2] at c15b1k_)
        have H' := Aside0.mk H
        clear H
        obtain ⟨Ao16, co16, eo16⟩ := Kd.R_slice HO_7.out
        subst eo16
        go_wp2
        go_loopg [10, 11] kj6 (fun kq v10 v11 w' => ∃ (x7_2 : List Int) (x10_2 : Bool) (x11_2 : Int), v10 = .bool x10_2 ∧ v11 = .int .i64 x11_2 ∧ Aside0 (undercroftlaw03_RecordTorn.l0 kq a2 x7_2 (wrap64 (Int.tmod (IntKind.u64.wrap (a1)) (IntKind.u64.wrap (wrap64 (8 * (t377.length : Int)))))) x10_2 x11_2 a0_0 l0_1 l0_2 = some r) ∧ Aside0 (kq ≤ kj6) ∧ Aside0 (Kd.R (Kd.int .u8) 5 w' w.heap.size (fun _ => True) (.slice Ao16 t377.length co16) x7_2) ∧ Aside0 (w'.heap[gb375]? = some (.cells #[.int .u64 a0_0, (.slice A0_1 l0_1.length c0_1), (.slice A0_2 l0_2.length c0_2)] 26 (0, 0))) ∧ Aside0 (Below w.heap.size w w'))
        case atStart => exact ⟨(t377), (false), (0), (by first | rfl | (simp; done) | (simp [*]; done)), (by first | rfl | (simp; done) | (simp [*]; done)), H', ⟨Nat.le_refl _⟩, ⟨by (with_reducible repeat (first | apply Kd.R_alloc | apply Kd.R_drewN | apply Kd.R_drew)); exact HO_7.out⟩, ⟨by (with_reducible repeat (first | refine blk_drewN ?_ _ | refine blk_drew ?_ | refine blk_alloc ?_ _)); exact BK375.out⟩, ⟨by repeat (first | (with_reducible first | exact HB.out | apply below_alloc | apply pw_below_drewN | apply below_drew1 | refine below_set ?_ GE375.out) | exact HB.out)⟩⟩
        case round =>
          clear H'
          try clear c1
          try clear p2
          try clear c5
          try clear p6
          try clear c7
          try clear c11
          try clear c12
          try clear c12b0
          try clear c12b1
          try clear c13
          try clear c14
          try clear c15
          try clear c15b0
          try clear c15b1
          try clear hcz10_0
          try clear hcz10_1
          try clear hcz10_2
          try clear hfz10_0
          try clear hfz10_1
          try clear hfz10_2
          try clear p2
          obtain ⟨x7_2, x10_2, x11_2, rfl, rfl, HA, HK2, HO_7, BK375, HB⟩ := hrel
          have hl7_2 := (Kd.R_reads' HO_7.out).1
          rw [hl7_2] at HO_7
          (try simp only [hl7_2])
          (try simp only [hl7_2] at BK375)
          cases gk with
          | zero => exact absurd HA.out (by simp [undercroftlaw03_RecordTorn.l0])
          | succ k2 =>
            have H := HA.out
            clear HA
            simp only [undercroftlaw03_RecordTorn.l0] at H
            by_cases c17 : x11_2 < 32
            rotate_left
            · rw [if_neg c17] at H
              have c17b0 : decide (x11_2 < 32) = false := decide_eq_false c17
              clear c17
              replace H := Option.bind_eq_some_iff.mp H
              obtain ⟨⟨t383, t384, t387, t390, t391⟩, A310, H⟩ := H
              replace H : (some (t391 == (!x10_2))) = some r := H
              have A31 := Aside0.mk A310
              clear A310
              obtain rfl := Option.some.inj H
              have hcz32_0 : wr.cell? ⟨gb375, 0, none⟩ = some (.int .u64 a0_0) := (blk_cell BK375.out 0).trans rfl
              have hcz32_1 : wr.cell? ⟨gb375, 1, none⟩ = some (.slice A0_1 l0_1.length c0_1) := (blk_cell BK375.out 1).trans rfl
              have hcz32_2 : wr.cell? ⟨gb375, 2, none⟩ = some (.slice A0_2 l0_2.length c0_2) := (blk_cell BK375.out 2).trans rfl
              have hfz32_0 := blk_frozen BK375.out 0
              have hfz32_1 := blk_frozen BK375.out 1
              have hfz32_2 := blk_frozen BK375.out 2
              go_wp2_with (first | ((with_reducible refine gate_callee (f := 16) rfl ?_); refine goesL_ (some 73) rfl rfl Try.func16 (by kernel_rfl) rfl #[.slice Ao16 x7_2.length co16, .int .u64 a0_0] rfl (by (try simp only [List.map_toArray, List.map_cons, List.map_nil]); first | done | rfl | (simp only [List.length_drop, List.length_take]; rfl)) ?_; (with_reducible refine (record_Decode.calls _ _ x7_2 a0_0 t383 t384 t387 t390 t391 _ ?side1 ?side2 A31.out).mono ?_); (case side1 => repeat (first | exact (Kd.R_reads' HO_7.out).2.2 | (with_reducible refine Kd.C_alloc ?_ _) | (with_reducible refine Kd.C_drewN ?_ _) | (with_reducible refine Kd.C_drew ?_))); (case side2 => exact (Kd.R_reads' HO_7.out).2.1); rintro e w33 ⟨v385, v388, rfl, ho0, ho1, hb⟩; refine ⟨_, rfl, ?_⟩; have n0_ := Aside0.mk (Kd.R_below (by (with_reducible repeat (first | apply Kd.R_alloc | apply Kd.R_drewN | apply Kd.R_drew)); exact HO_7.out) hb); have n1_ := Aside0.mk (Kd.S_lower (Kd.S_new' ho0 (Kd.R_lt (by (with_reducible repeat (first | apply Kd.R_alloc | apply Kd.R_drewN | apply Kd.R_drew)); exact HO_7.out))) (below_size (by repeat (first | (with_reducible first | exact HB.out | apply below_alloc | apply pw_below_drewN | apply below_drew1 | refine below_set ?_ GE375.out) | exact HB.out)))); have n2_ := Aside0.mk (Kd.R_lower ho1 (below_size (by repeat (first | (with_reducible first | exact HB.out | apply below_alloc | apply pw_below_drewN | apply below_drew1 | refine below_set ?_ GE375.out) | exact HB.out)))); have n3_ := Aside0.mk (blk_below (g := gb375) (o := .cells #[.int .u64 a0_0, .slice A0_1 l0_1.length c0_1, .slice A0_2 l0_2.length c0_2] 26 (0, 0)) (by (with_reducible repeat (first | refine blk_drewN ?_ _ | refine blk_drew ?_ | refine blk_alloc ?_ _)); exact BK375.out) hb); have n4_ := Aside0.mk (below_step (by repeat (first | (with_reducible first | exact HB.out | apply below_alloc | apply pw_below_drewN | apply below_drew1 | refine below_set ?_ GE375.out) | exact HB.out)) hb); clear HO_7; clear BK375; clear HB; have HO_7 := n0_; have HO386 := n1_; have HO389 := n2_; have BK375 := n3_; have HB := n4_; clear n0_ n1_ n2_ n3_ n4_; (try clear hb); (try clear hb2); (try clear hk); (try clear hi); (try clear ho0); (try clear ho1)) | ((with_reducible refine gate_dst (N := 13) rfl ?_); (try (refine gate_guard (by rfl) ?_; dsimp only)); refine box_event ?hg (N := 13) ?hd (cs := #[.int .u64 0, .slice none 0 0, .slice none 0 0]) (t := 26) ?hr ?_; (case hd => rfl); (case hg => rfl); (case hr => go_simp; first | done | rfl); intro gb392 hg w34 hbox hb; have n0_ := Aside0.mk (Kd.R_below (by (with_reducible repeat (first | apply Kd.R_alloc | apply Kd.R_drewN | apply Kd.R_drew)); exact HO_7.out) hb); have n1_ := Aside0.mk (Kd.S_below (by (with_reducible repeat (first | apply Kd.S_alloc | apply Kd.S_drewN | apply Kd.S_drew)); exact HO386.out) hb); have n2_ := Aside0.mk (Kd.R_below (by (with_reducible repeat (first | apply Kd.R_alloc | apply Kd.R_drewN | apply Kd.R_drew)); exact HO389.out) hb); have n3_ := Aside0.mk (blk_below (g := gb375) (o := .cells #[.int .u64 a0_0, .slice A0_1 l0_1.length c0_1, .slice A0_2 l0_2.length c0_2] 26 (0, 0)) (by (with_reducible repeat (first | refine blk_drewN ?_ _ | refine blk_drew ?_ | refine blk_alloc ?_ _)); exact BK375.out) hb); have n4_ := Aside0.mk (below_step (by repeat (first | (with_reducible first | exact HB.out | apply below_alloc | apply pw_below_drewN | apply below_drew1 | refine below_set ?_ GE375.out) | exact HB.out)) hb); have n5_ := Aside0.mk (hbox); have n6_ := Aside0.mk ((by rw [hg]; exact (below_size (by repeat (first | (with_reducible first | exact HB.out | apply below_alloc | apply pw_below_drewN | apply below_drew1 | refine below_set ?_ GE375.out) | exact HB.out))) : w.heap.size ≤ gb392)); have n7_ := Aside0.mk ((by rw [hg]; exact (below_size (by repeat (first | (with_reducible first | exact HB.out | apply below_alloc | apply pw_below_drewN | apply below_drew1 | refine below_set ?_ GE375.out) | exact HB.out))) : w.heap.size ≤ gb392)); have n8_ := Aside0.mk ((by rw [hg]; exact Nat.ne_of_lt (blk_lt (g := gb375) (o := .cells #[.int .u64 a0_0, .slice A0_1 l0_1.length c0_1, .slice A0_2 l0_2.length c0_2] 26 (0, 0)) (by (with_reducible repeat (first | refine blk_drewN ?_ _ | refine blk_drew ?_ | refine blk_alloc ?_ _)); exact BK375.out)) : gb375 ≠ gb392)); have n9_ := Aside0.mk ((by rw [hg]; exact Nat.ne_of_gt (blk_lt (g := gb375) (o := .cells #[.int .u64 a0_0, .slice A0_1 l0_1.length c0_1, .slice A0_2 l0_2.length c0_2] 26 (0, 0)) (by (with_reducible repeat (first | refine blk_drewN ?_ _ | refine blk_drew ?_ | refine blk_alloc ?_ _)); exact BK375.out)) : gb392 ≠ gb375)); clear HO_7; clear HO386; clear HO389; clear BK375; clear HB; have HO_7 := n0_; have HO386 := n1_; have HO389 := n2_; have BK375 := n3_; have HB := n4_; have BK392 := n5_; have GW392 := n6_; have GE392 := n7_; have NB375_392 := n8_; have NB392_375 := n9_; clear n0_ n1_ n2_ n3_ n4_ n5_ n6_ n7_ n8_ n9_; clear hb hbox hg; have hnb35 := NB392_375.out; have hnc35 := NB375_392.out; have hcz36_0 : w34.cell? ⟨gb392, 0, none⟩ = some (.int .u64 0) := (blk_cell BK392.out 0).trans rfl; have hcz36_1 : w34.cell? ⟨gb392, 1, none⟩ = some (.slice none 0 0) := (blk_cell BK392.out 1).trans rfl; have hcz36_2 : w34.cell? ⟨gb392, 2, none⟩ = some (.slice none 0 0) := (blk_cell BK392.out 2).trans rfl; have hfz36_0 := blk_frozen BK392.out 0; have hfz36_1 := blk_frozen BK392.out 1; have hfz36_2 := blk_frozen BK392.out 2; obtain ⟨Ao37, co37, eo37⟩ := Kd.S_slice HO386.out; subst eo37; obtain ⟨Ao38, co38, eo38⟩ := Kd.R_slice HO389.out; subst eo38))
              go_ret
              exact ⟨by first | rfl | (simp [errW_none, errW_some] <;> rfl) | (simp [*, errW_none, errW_some] <;> rfl), by repeat (first | (with_reducible first | exact HB.out | apply below_alloc | apply pw_below_drewN | apply below_drew1 | refine below_set ?_ GE375.out | refine below_set ?_ GE392.out) | exact HB.out)⟩
            rw [if_pos c17] at H
            have c17b0 : decide (x11_2 < 32) = true := decide_eq_true c17
            clear c17
            by_cases c18 : 0 ≤ x11_2
            rotate_left
            · rw [if_neg c18] at H
              exact absurd H (by simp)
            rw [if_pos c18] at H
            have c18b0 := eq_true c18
            have c18b1 : decide (0 ≤ x11_2) = true := decide_eq_true c18
            clear c18
            obtain ⟨ji19, hji19⟩ : ∃ j_ : Int, (shr .u32 a2 x11_2) = j_ := ⟨_, rfl⟩
            replace H : (if (Go.bits .and .u32 (ji19) 1) = 1 then (if (wrap64 ((wrap64 (Int.tmod (IntKind.u64.wrap (a1)) (IntKind.u64.wrap (wrap64 (8 * (t377.length : Int)))))) + x11_2)) < (wrap64 (8 * (x7_2.length : Int))) then (if 0 ≤ (wrap64 (Int.tdiv (wrap64 ((wrap64 (Int.tmod (IntKind.u64.wrap (a1)) (IntKind.u64.wrap (wrap64 (8 * (t377.length : Int)))))) + x11_2)) 8)) then (if (wrap64 (Int.tdiv (wrap64 ((wrap64 (Int.tmod (IntKind.u64.wrap (a1)) (IntKind.u64.wrap (wrap64 (8 * (t377.length : Int)))))) + x11_2)) 8)) < (x7_2.length : Int) then (if 0 ≤ (Int.tmod (wrap64 ((wrap64 (Int.tmod (IntKind.u64.wrap (a1)) (IntKind.u64.wrap (wrap64 (8 * (t377.length : Int)))))) + x11_2)) 8) then (undercroftlaw03_RecordTorn.l0 k2 a2 (x7_2.set ((wrap64 (Int.tdiv (wrap64 ((wrap64 (Int.tmod (IntKind.u64.wrap (a1)) (IntKind.u64.wrap (wrap64 (8 * (t377.length : Int)))))) + x11_2)) 8)) : Int).toNat (Go.bits .xor .u8 (rd x7_2 (wrap64 (Int.tdiv (wrap64 ((wrap64 (Int.tmod (IntKind.u64.wrap (a1)) (IntKind.u64.wrap (wrap64 (8 * (t377.length : Int)))))) + x11_2)) 8))) (shl .u8 1 (Int.tmod (wrap64 ((wrap64 (Int.tmod (IntKind.u64.wrap (a1)) (IntKind.u64.wrap (wrap64 (8 * (t377.length : Int)))))) + x11_2)) 8)))) (wrap64 (Int.tmod (IntKind.u64.wrap (a1)) (IntKind.u64.wrap (wrap64 (8 * (t377.length : Int)))))) true (wrap64 (x11_2 + 1)) a0_0 l0_1 l0_2) else (none)) else (none)) else (none)) else (undercroftlaw03_RecordTorn.l0 k2 a2 x7_2 (wrap64 (Int.tmod (IntKind.u64.wrap (a1)) (IntKind.u64.wrap (wrap64 (8 * (t377.length : Int)))))) x10_2 (wrap64 (x11_2 + 1)) a0_0 l0_1 l0_2)) else (undercroftlaw03_RecordTorn.l0 k2 a2 x7_2 (wrap64 (Int.tmod (IntKind.u64.wrap (a1)) (IntKind.u64.wrap (wrap64 (8 * (t377.length : Int)))))) x10_2 (wrap64 (x11_2 + 1)) a0_0 l0_1 l0_2)) = some r := by first | (rw [hji19] at H; exact H) | (simp only [hji19] at H ⊢; exact H)
            have hji19_ : (a2 / 2 ^ min x11_2.toNat 32) = ji19 := hji19
            have hji19z : x11_2 ≤ 32 → (a2 / 2 ^ x11_2.toNat) = ji19 := shr_small hji19
            by_cases c20 : (Go.bits .and .u32 (ji19) 1) = 1
            rotate_left
            · rw [if_neg c20] at H
              have c20b0 : ((Go.bits .and .u32 (ji19) 1) == 1) = false := beq_eq_false_iff_ne.mpr c20
              have c20b1 : ((Go.bits .and .u32 (ji19) 1) != 1) = true := bne_iff_ne.mpr c20
              have H' := Aside0.mk H
              clear H
              go_wp2
              (try simp only [← hl7_2])
              go_roundg k2
              case measure => have := HJ6.out; have := HK2.out; omega
              case rel => exact ⟨(x7_2), (x10_2), (wrap64 (x11_2 + 1)), (by first | rfl | (simp; done) | (simp [*]; done)), (by first | rfl | (simp; done) | (simp [*]; done)), H', ⟨by have := HJ6.out; have := HK2.out; omega⟩, ⟨by (try simp only [hl7_2]); (with_reducible repeat (first | apply Kd.R_alloc | apply Kd.R_drewN | apply Kd.R_drew)); exact HO_7.out⟩, ⟨by (try simp only [hl7_2]); (with_reducible repeat (first | refine blk_drewN ?_ _ | refine blk_drew ?_ | refine blk_alloc ?_ _)); exact BK375.out⟩, ⟨by repeat (first | (with_reducible first | exact HB.out | apply below_alloc | apply pw_below_drewN | apply below_drew1 | refine below_set ?_ GE375.out) | exact HB.out)⟩⟩
            rw [if_pos c20] at H
            have c20b0 : ((Go.bits .and .u32 (ji19) 1) == 1) = true := beq_iff_eq.mpr c20
            have c20b1 : ((Go.bits .and .u32 (ji19) 1) != 1) = false := bne_eq_false_iff_eq.mpr c20
            clear c20
            by_cases c21 : (wrap64 ((wrap64 (Int.tmod (IntKind.u64.wrap (a1)) (IntKind.u64.wrap (wrap64 (8 * (t377.length : Int)))))) + x11_2)) < (wrap64 (8 * (x7_2.length : Int)))
            rotate_left
            · rw [if_neg c21] at H
              have c21b0 : decide ((wrap64 ((wrap64 (Int.tmod (IntKind.u64.wrap (a1)) (IntKind.u64.wrap (wrap64 (8 * (t377.length : Int)))))) + x11_2)) < (wrap64 (8 * (x7_2.length : Int)))) = false := decide_eq_false c21
              try (have c21b0k_ := c21b0; rw [hl7_2] at c21b0k_)
              clear c21
              have H' := Aside0.mk H
              clear H
              go_wp2
              (try simp only [← hl7_2])
              go_roundg k2
              case measure => have := HJ6.out; have := HK2.out; omega
              case rel => exact ⟨(x7_2), (x10_2), (wrap64 (x11_2 + 1)), (by first | rfl | (simp; done) | (simp [*]; done)), (by first | rfl | (simp; done) | (simp [*]; done)), H', ⟨by have := HJ6.out; have := HK2.out; omega⟩, ⟨by (try simp only [hl7_2]); (with_reducible repeat (first | apply Kd.R_alloc | apply Kd.R_drewN | apply Kd.R_drew)); exact HO_7.out⟩, ⟨by (try simp only [hl7_2]); (with_reducible repeat (first | refine blk_drewN ?_ _ | refine blk_drew ?_ | refine blk_alloc ?_ _)); exact BK375.out⟩, ⟨by repeat (first | (with_reducible first | exact HB.out | apply below_alloc | apply pw_below_drewN | apply below_drew1 | refine below_set ?_ GE375.out) | exact HB.out)⟩⟩
            rw [if_pos c21] at H
            have c21b0 : decide ((wrap64 ((wrap64 (Int.tmod (IntKind.u64.wrap (a1)) (IntKind.u64.wrap (wrap64 (8 * (t377.length : Int)))))) + x11_2)) < (wrap64 (8 * (x7_2.length : Int)))) = true := decide_eq_true c21
            try (have c21b0k_ := c21b0; rw [hl7_2] at c21b0k_)
            clear c21
            obtain ⟨ji22, hji22⟩ : ∃ j_ : Int, (wrap64 (Int.tdiv (wrap64 ((wrap64 (Int.tmod (IntKind.u64.wrap (a1)) (IntKind.u64.wrap (wrap64 (8 * (t377.length : Int)))))) + x11_2)) 8)) = j_ := ⟨_, rfl⟩
            try (have hji22k_ := hji22; rw [hl7_2] at hji22k_)
            replace H : (if 0 ≤ (ji22) then (if (ji22) < (x7_2.length : Int) then (if 0 ≤ (Int.tmod (wrap64 ((wrap64 (Int.tmod (IntKind.u64.wrap (a1)) (IntKind.u64.wrap (wrap64 (8 * (t377.length : Int)))))) + x11_2)) 8) then (undercroftlaw03_RecordTorn.l0 k2 a2 (x7_2.set ((ji22) : Int).toNat (Go.bits .xor .u8 (rd x7_2 (ji22)) (shl .u8 1 (Int.tmod (wrap64 ((wrap64 (Int.tmod (IntKind.u64.wrap (a1)) (IntKind.u64.wrap (wrap64 (8 * (t377.length : Int)))))) + x11_2)) 8)))) (wrap64 (Int.tmod (IntKind.u64.wrap (a1)) (IntKind.u64.wrap (wrap64 (8 * (t377.length : Int)))))) true (wrap64 (x11_2 + 1)) a0_0 l0_1 l0_2) else (none)) else (none)) else (none)) = some r := by first | (rw [hji22] at H; exact H) | (simp only [hji22] at H ⊢; exact H)
            have hji22w : (IntKind.i64.wrap (Int.tdiv (wrap64 ((wrap64 (Int.tmod (IntKind.u64.wrap (a1)) (IntKind.u64.wrap (wrap64 (8 * (t377.length : Int)))))) + x11_2)) 8)) = ji22 := (i64_w _).trans hji22
            try (have hji22wk_ := hji22w; rw [hl7_2] at hji22wk_)
            by_cases c23 : 0 ≤ (ji22)
            rotate_left
            · rw [if_neg c23] at H
              exact absurd H (by simp)
            rw [if_pos c23] at H
            have c23b0 : decide (0 ≤ (ji22)) = true := decide_eq_true c23
            clear c23
            by_cases c24 : (ji22) < (x7_2.length : Int)
            rotate_left
            · rw [if_neg c24] at H
              exact absurd H (by simp)
            rw [if_pos c24] at H
            have c24b0 : decide ((ji22) < (x7_2.length : Int)) = true := decide_eq_true c24
            clear c24
            obtain ⟨ji25, hji25⟩ : ∃ j_ : Int, (Int.tmod (wrap64 ((wrap64 (Int.tmod (IntKind.u64.wrap (a1)) (IntKind.u64.wrap (wrap64 (8 * (t377.length : Int)))))) + x11_2)) 8) = j_ := ⟨_, rfl⟩
            try (have hji25k_ := hji25; rw [hl7_2] at hji25k_)
            replace H : (if 0 ≤ (ji25) then (undercroftlaw03_RecordTorn.l0 k2 a2 (x7_2.set ((ji22) : Int).toNat (Go.bits .xor .u8 (rd x7_2 (ji22)) (shl .u8 1 (ji25)))) (wrap64 (Int.tmod (IntKind.u64.wrap (a1)) (IntKind.u64.wrap (wrap64 (8 * (t377.length : Int)))))) true (wrap64 (x11_2 + 1)) a0_0 l0_1 l0_2) else (none)) = some r := by first | (rw [hji25] at H; exact H) | (simp only [hji25] at H ⊢; exact H)
            by_cases c26 : 0 ≤ (ji25)
            rotate_left
            · rw [if_neg c26] at H
              exact absurd H (by simp)
            rw [if_pos c26] at H
            have c26b0 := eq_true c26
            have c26b1 : decide (0 ≤ (ji25)) = true := decide_eq_true c26
            clear c26
            obtain ⟨ji27, hji27⟩ : ∃ j_ : Int, (shl .u8 1 (ji25)) = j_ := ⟨_, rfl⟩
            replace H : (undercroftlaw03_RecordTorn.l0 k2 a2 (x7_2.set ((ji22) : Int).toNat (Go.bits .xor .u8 (rd x7_2 (ji22)) (ji27))) (wrap64 (Int.tmod (IntKind.u64.wrap (a1)) (IntKind.u64.wrap (wrap64 (8 * (t377.length : Int)))))) true (wrap64 (x11_2 + 1)) a0_0 l0_1 l0_2) = some r := by first | (rw [hji27] at H; exact H) | (simp only [hji27] at H ⊢; exact H)
            have hji27_ : (IntKind.u8.wrap (1 * 2 ^ min (ji25).toNat 8)) = ji27 := hji27
            have hji27z : (ji25) ≤ 8 → (IntKind.u8.wrap (1 * 2 ^ (ji25).toNat)) = ji27 := shl_small hji27
            have hji27u : (IntKind.u8.wrap (2 ^ min (ji25).toNat 8)) = ji27 := by have h_ := hji27_; rw [Int.one_mul] at h_; exact h_
            have hji27v : (ji25) ≤ 8 → (IntKind.u8.wrap (2 ^ (ji25).toNat)) = ji27 := fun hle_ => by have h_ := hji27z hle_; rw [Int.one_mul] at h_; exact h_
            obtain ⟨y382, hy382⟩ : ∃ y_ : List Int, y_ = (x7_2.set ((ji22) : Int).toNat (Go.bits .xor .u8 (rd x7_2 (ji22)) (ji27))) := ⟨_, rfl⟩
            replace H : (undercroftlaw03_RecordTorn.l0 k2 a2 y382 (wrap64 (Int.tmod (IntKind.u64.wrap (a1)) (IntKind.u64.wrap (wrap64 (8 * (t377.length : Int)))))) true (wrap64 (x11_2 + 1)) a0_0 l0_1 l0_2) = some r := by first | (rw [hy382]; with_reducible exact H) | (have H2_ := (Option.bind_some _ _).symm.trans H; rw [hy382]; with_reducible exact H2_) | (have H2_ := (Option.bind_some _ _).symm.trans H; with_reducible exact H2_) | with_reducible exact H | (rw [hy382]; exact H) | exact H
            have Ny382 := Aside0.mk hy382
            clear hy382
            have H' := Aside0.mk H
            clear H
            try go_wp2
            have n0_ := Aside0.mk (Kd.R_drew HO_7.out)
            have n1_ := Aside0.mk (blk_drew BK375.out)
            have n2_ := Aside0.mk (below_drew1 HB.out)
            clear HO_7
            clear BK375
            clear HB
            have HO_7 := n0_
            have BK375 := n1_
            have HB := n2_
            clear n0_ n1_ n2_
            have p381 : 0 ≤ ((ji22) : Int) := of_decide_eq_true (by first | (with_reducible assumption) | assumption)
            have q381 : (ji22) < (x7_2.length : Int) := of_decide_eq_true (by first | (with_reducible assumption) | assumption)
            obtain ⟨ad381, e381, hx381_0⟩ := Kd.at_int (Kd.R_reads' HO_7.out).2.2 (ji22) p381 q381
            cases e381
            replace p381 := eq_true p381
            replace q381 := eq_true q381
            have p28 : 0 ≤ ((ji22) : Int) := of_decide_eq_true (by first | (with_reducible assumption) | assumption)
            have q28 : ((ji22) : Int) < ((x7_2.length : Int) : Int) := of_decide_eq_true (by first | (with_reducible assumption) | assumption)
            obtain ⟨go28, co28, eo28, gb28, gl28, cl28, HG28⟩ := Kd.R_form HO_7.out (by omega)
            (first | cases eo28 | (injection eo28 with ea_ en_ ec_; (first | subst ea_ | (injection ea_ with ea_; subst ea_)); subst ec_; clear en_))
            have GB28 := Aside0.mk gb28
            have GG28 := Aside0.mk HG28
            clear gb28 gl28 HG28
            (first | simp only [add_plain] at hx381_0 | skip)
            obtain ⟨hx28_0, hf28_0⟩ := Kd.R_celln 0 HO_7.out ((ji22) : Int) p28 q28
            replace p28 := eq_true p28
            replace q28 := eq_true q28
            have HP30 := Kd.R_putn HO_7.out ((ji22) : Int) (Go.bits .xor .u8 (rd x7_2 (ji22)) (ji27))
            rw [← Ny382.out] at HP30
            have HQ30 := Aside0.mk HP30
            clear HP30
            refine start_ (n := 11) (S := fun w' => w'.cell? ⟨go28, ((ji22)).toNat, none⟩ = some (.int .u8 (rd x7_2 (ji22)))) (ds := [10]) #[false, false, false, false, false, false, false, false, false, false, false] (by kernel_rfl) rfl rfl (hx381_0) (fun hHeld => ?_); refine with_tabW undercroftlaw03_RecordTorn.tab13 undercroftlaw03_RecordTorn.bits13 (fun HT_ HW_ => ?_)
            generalize wr.drew = w29 at HO_7 BK375 HB GG28 HQ30 hf28_0 hx28_0 hx381_0 hHeld ⊢
            refine pure_ (i := 0) (N := some 59) (v := ?_) (a' := ?_) #[true, false, false, false, false, false, false, false, false, false, false] rfl rfl (any_of HT_.out (by kernel_rfl)) (fun _ _ _ h => h) (Or.inl ⟨by rfl, ?_⟩) ?_ ?_
            rotate_left
            · intro w'
              go_simp
              with_reducible rfl
            rotate_left
            · simp only [Act.put, List.setIfInBounds_toArray, List.set_cons_zero, List.set_cons_succ, i64_w, i32_w]
              rfl
            refine pure_ (i := 1) (N := some 60) (v := ?_) (a' := ?_) #[true, true, false, false, false, false, false, false, false, false, false] rfl rfl (any_of HT_.out (by kernel_rfl)) (fun _ _ _ h => h) (Or.inl ⟨by rfl, ?_⟩) ?_ ?_
            rotate_left
            · intro w'
              go_simp
              with_reducible rfl
            rotate_left
            · simp only [Act.put, List.setIfInBounds_toArray, List.set_cons_zero, List.set_cons_succ, i64_w, i32_w]
              rfl
            refine pure_ (i := 2) (N := some 61) (v := ?_) (a' := ?_) #[true, true, true, false, false, false, false, false, false, false, false] rfl rfl (any_of HT_.out (by kernel_rfl)) (fun _ _ _ h => h) (Or.inl ⟨by rfl, ?_⟩) ?_ ?_
            rotate_left
            · intro w'
              go_simp
              with_reducible rfl
            rotate_left
            · simp only [Act.put, List.setIfInBounds_toArray, List.set_cons_zero, List.set_cons_succ, i64_w, i32_w]
              rfl
            refine pure_ (i := 3) (N := some 62) (v := ?_) (a' := ?_) #[true, true, true, true, false, false, false, false, false, false, false] rfl rfl (any_of HT_.out (by kernel_rfl)) (fun _ _ _ h => h) (Or.inl ⟨by rfl, ?_⟩) ?_ ?_
            rotate_left
            · intro w'
              go_simp
              with_reducible rfl
            rotate_left
            · simp only [Act.put, List.setIfInBounds_toArray, List.set_cons_zero, List.set_cons_succ, i64_w, i32_w]
              rfl
            refine pure_ (i := 5) (N := some 64) (v := ?_) (a' := ?_) #[true, true, true, true, false, true, false, false, false, false, false] rfl rfl (any_of HT_.out (by kernel_rfl)) (fun _ _ _ h => h) (Or.inl ⟨by rfl, ?_⟩) ?_ ?_
            rotate_left
            · intro w'
              go_simp
              with_reducible rfl
            rotate_left
            · simp only [Act.put, List.setIfInBounds_toArray, List.set_cons_zero, List.set_cons_succ, i64_w, i32_w]
              rfl
            refine pure_ (i := 6) (N := some 65) (v := ?_) (a' := ?_) #[true, true, true, true, false, true, true, false, false, false, false] rfl rfl (any_of HT_.out (by kernel_rfl)) (fun _ _ _ h => h) (Or.inl ⟨by rfl, ?_⟩) ?_ ?_
            rotate_left
            · intro w'
              go_simp
              with_reducible rfl
            rotate_left
            · simp only [Act.put, List.setIfInBounds_toArray, List.set_cons_zero, List.set_cons_succ, i64_w, i32_w]
              rfl
            refine pure_ (i := 7) (N := some 66) (v := ?_) (a' := ?_) #[true, true, true, true, false, true, true, true, false, false, false] rfl rfl (any_of HT_.out (by kernel_rfl)) (fun _ _ _ h => h) (Or.inl ⟨by rfl, ?_⟩) ?_ ?_
            rotate_left
            · intro w'
              go_simp
              with_reducible rfl
            rotate_left
            · simp only [Act.put, List.setIfInBounds_toArray, List.set_cons_zero, List.set_cons_succ, i64_w, i32_w]
              rfl
            refine take_ (i := 4) (N := some 63) (v := ?_) (a' := ?_) #[true, true, true, true, true, true, true, true, false, false, false] rfl rfl (take_ofW HT_.out HW_.out (by kernel_rfl)) (fun _ _ _ h => h) (Or.inl ⟨by rfl, ?_⟩) hHeld ?_ ?_
            rotate_left
            · intro w' s0
              go_simp
              with_reducible rfl
            rotate_left
            · simp only [Act.put, List.setIfInBounds_toArray, List.set_cons_zero, List.set_cons_succ, i64_w, i32_w]
              rfl
            refine pure_ (i := 8) (N := some 67) (v := ?_) (a' := ?_) #[true, true, true, true, true, true, true, true, true, false, false] rfl rfl (any_of HT_.out (by kernel_rfl)) (fun _ _ _ h => h) (Or.inl ⟨by rfl, ?_⟩) ?_ ?_
            rotate_left
            · intro w'
              go_simp
              with_reducible rfl
            rotate_left
            · simp only [Act.put, List.setIfInBounds_toArray, List.set_cons_zero, List.set_cons_succ, i64_w, i32_w]
              rfl
            refine pure_ (i := 9) (N := some 68) (v := ?_) (a' := ?_) #[true, true, true, true, true, true, true, true, true, true, false] rfl rfl (any_of HT_.out (by kernel_rfl)) (fun _ _ _ h => h) (Or.inl ⟨by rfl, ?_⟩) ?_ ?_
            rotate_left
            · intro w'
              go_simp
              with_reducible rfl
            rotate_left
            · simp only [Act.put, List.setIfInBounds_toArray, List.set_cons_zero, List.set_cons_succ, i64_w, i32_w]
              rfl
            refine last_ (i := 10) (N := none) #[true, true, true, true, true, true, true, true, true, true, true] rfl rfl (one_of HT_.out (by kernel_rfl)) (by decide) (fun K hK => ?_)
            refine skip_ (w1 := ?_) (by rfl) rfl ?_ ?_
            rotate_left
            · go_simp
              rfl
            refine hK.out _ _ ?_
            clear hK K
            refine done_ (done_of HT_.out (by kernel_rfl)) ?_
            try go_wp2
            (try simp only [← hl7_2])
            go_roundg k2
            case measure => have := HJ6.out; have := HK2.out; omega
            case rel => exact ⟨(y382), (true), (wrap64 (x11_2 + 1)), (by first | rfl | (simp; done) | (simp [*]; done)), (by first | rfl | (simp; done) | (simp [*]; done)), H', ⟨by have := HJ6.out; have := HK2.out; omega⟩, ⟨by (try simp only [hl7_2]); (with_reducible repeat (first | apply Kd.R_alloc | apply Kd.R_drewN | apply Kd.R_drew)); exact HQ30.out⟩, ⟨by (try simp only [hl7_2]); (with_reducible repeat (first | refine blk_drewN ?_ _ | refine blk_drew ?_ | refine blk_alloc ?_ _)); refine blk_far ?_ (by have h_ := Kd.R_ne HO_7.out BK375.out (by decide); intro e_; exact h_ (by rw [e_]; rfl)) _; (with_reducible repeat (first | refine blk_drewN ?_ _ | refine blk_drew ?_ | refine blk_alloc ?_ _)); exact BK375.out⟩, ⟨by repeat (first | (with_reducible first | exact HB.out | apply below_alloc | apply pw_below_drewN | apply below_drew1 | refine below_set ?_ GB28.out | refine below_set ?_ GE375.out) | exact HB.out)⟩⟩
  · replace c5 := Bool.eq_false_iff.mpr c5
    subst c5
    have H1 : (some false) = some r := by rw [if_neg (show ¬ (false = true) by decide)] at H; exact H
    clear H
    have H := H1
    clear H1
    exact absurd (Option.some.inj H) (by rw [hT]; decide)

end Go.Proofs.Ytpihpabofgmahaa.U
