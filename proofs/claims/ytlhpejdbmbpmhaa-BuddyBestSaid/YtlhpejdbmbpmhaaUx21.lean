/- Written by uprint.py (ours) for this seat: functions of the translation as Lean functions, and what their calls do. Not trusted: Lean checks it. -/
import Derived.Test.YtlhpejdbmbpmhaaUx0
import Derived.Test.YtlhpejdbmbpmhaaUx8
import Derived.Test.YtlhpejdbmbpmhaaUx10
namespace Go.Proofs.Ytlhpejdbmbpmhaa.U
open Go.RowKit Go.Proofs.YtlhpejdbmbpmhaaW.PrintWords Go.Proofs.YtlhpejdbmbpmhaaW.PrintLast Go.Proofs.YtlhpejdbmbpmhaaW.PrintMore
attribute [local go_sem] max2_int min2_int max_two min_two max_three min_three max_four min_four   -- for this text's walks alone
set_option linter.unusedVariables false
set_option linter.unusedSimpArgs false

/-! ### undercroftref08_Orders: function 17 -/
mutual
def undercroftref08_Orders.l0 : Nat → List Int → Int → List Int → Int → Option (List Int × Int)
  | 0, _, _, _, _ => none
  | k + 1, x0, x1, x6, x7 => if x7 < 7 then (undercroftref08_Orders.l1 k x0 x1 x6 x7 0) else (some (x6, 0))
def undercroftref08_Orders.l1 : Nat → List Int → Int → List Int → Int → Int → Option (List Int × Int)
  | 0, _, _, _, _, _ => none
  | k + 1, x0, x1, x6, x7, x8 => if x8 < x1 then (if 0 ≤ x7 then (if (shl .i64 2 x7) = 0 then (none) else ((undercroftref08_free.f k x0 x1 x8 x7).bind fun t242 => (if t242 = true then (if x7 = 6 then (if x7 < (x6.length : Int) then (undercroftref08_Orders.l1 k x0 x1 (x6.set (x7 : Int).toNat (wrap64 ((rd x6 x7) + 1))) x7 (wrap64 (x8 + (shl .i64 1 x7)))) else (none)) else ((undercroftref08_free.f k x0 x1 (wrap64 (x8 - (Int.tmod x8 (shl .i64 2 x7)))) (wrap64 (x7 + 1))).bind fun t245 => (if t245 = true then (undercroftref08_Orders.l1 k x0 x1 x6 x7 (wrap64 (x8 + (shl .i64 1 x7)))) else (if x7 < (x6.length : Int) then (undercroftref08_Orders.l1 k x0 x1 (x6.set (x7 : Int).toNat (wrap64 ((rd x6 x7) + 1))) x7 (wrap64 (x8 + (shl .i64 1 x7)))) else (none))))) else (undercroftref08_Orders.l1 k x0 x1 x6 x7 (wrap64 (x8 + (shl .i64 1 x7))))))) else (none)) else (undercroftref08_Orders.l0 k x0 x1 x6 (wrap64 (x7 + 1)))
end
def undercroftref08_Orders.f (k : Nat) (l0 : List Int) (a1 : Int) : Option (List Int × Int) := (undercroftref08_pool.f l0 a1).bind fun t238 => (if t238 = true then (if 7 ≤ 35184372088832 then (undercroftref08_Orders.l0 k l0 a1 (List.replicate 7 0) 0) else (none)) else (some (([] : List Int), 1)))
theorem undercroftref08_Orders.mono_l : ∀ k, (∀ y0 y1 y2 y3, LeO (undercroftref08_Orders.l0 k y0 y1 y2 y3) (undercroftref08_Orders.l0 (k + 1) y0 y1 y2 y3)) ∧ (∀ y0 y1 y2 y3 y4, LeO (undercroftref08_Orders.l1 k y0 y1 y2 y3 y4) (undercroftref08_Orders.l1 (k + 1) y0 y1 y2 y3 y4))
  | 0 => ⟨fun _ _ _ _ r h => by simp [undercroftref08_Orders.l0] at h, fun _ _ _ _ _ r h => by simp [undercroftref08_Orders.l1] at h⟩
  | k + 1 => by
    obtain ⟨ih0, ih1⟩ := undercroftref08_Orders.mono_l k
    refine ⟨?_, ?_⟩
    · intro y0 y1 y2 y3
      unfold undercroftref08_Orders.l0
      repeat' first
      | (with_reducible exact ih0 _ _ _ _)
      | (with_reducible exact ih1 _ _ _ _ _)
      | (with_reducible exact undercroftref08_free.mono _ _ _ _ _)
      | (with_reducible exact LeO.refl _)
      | (with_reducible exact LeO.none _)
      | (with_reducible refine LeO.ite ?_ ?_)
      | (with_reducible refine LeO.bind ?_ (fun _ => ?_))
      | exact ih0 _ _ _ _
      | exact ih1 _ _ _ _ _
      | exact undercroftref08_free.mono _ _ _ _ _
      | exact LeO.none _
      | refine LeO.ite ?_ ?_
      | refine LeO.bind ?_ (fun _ => ?_)
    · intro y0 y1 y2 y3 y4
      unfold undercroftref08_Orders.l1
      repeat' first
      | (with_reducible exact ih0 _ _ _ _)
      | (with_reducible exact ih1 _ _ _ _ _)
      | (with_reducible exact undercroftref08_free.mono _ _ _ _ _)
      | (with_reducible exact LeO.refl _)
      | (with_reducible exact LeO.none _)
      | (with_reducible refine LeO.ite ?_ ?_)
      | (with_reducible refine LeO.bind ?_ (fun _ => ?_))
      | exact ih0 _ _ _ _
      | exact ih1 _ _ _ _ _
      | exact undercroftref08_free.mono _ _ _ _ _
      | exact LeO.none _
      | refine LeO.ite ?_ ?_
      | refine LeO.bind ?_ (fun _ => ?_)
theorem undercroftref08_Orders.mono : ∀ a0 a1 k, LeO (undercroftref08_Orders.f k a0 a1) (undercroftref08_Orders.f (k + 1) a0 a1) := by
  intro a0 a1 k
  obtain ⟨ih0, ih1⟩ := undercroftref08_Orders.mono_l k
  unfold undercroftref08_Orders.f
  repeat' first
      | (with_reducible exact ih0 _ _ _ _)
      | (with_reducible exact ih1 _ _ _ _ _)
      | (with_reducible exact undercroftref08_free.mono _ _ _ _ _)
      | (with_reducible exact LeO.refl _)
      | (with_reducible exact LeO.none _)
      | (with_reducible refine LeO.ite ?_ ?_)
      | (with_reducible refine LeO.bind ?_ (fun _ => ?_))
      | exact ih0 _ _ _ _
      | exact ih1 _ _ _ _ _
      | exact undercroftref08_free.mono _ _ _ _ _
      | exact LeO.none _
      | refine LeO.ite ?_ ?_
      | refine LeO.bind ?_ (fun _ => ?_)
set_option maxHeartbeats 8000000 in
set_option maxRecDepth 100000 in
theorem undercroftref08_Orders.calls (k : Nat) (A0 : Option Addr) (c0 : Nat) (l0 : List Int) (a1 : Int) (r1 : List Int) (r2 : Int) (w : World) (hr0 : Kd.C (Kd.int .u8) w A0 l0.length l0) (hc0 : l0.length ≤ c0) (h : undercroftref08_Orders.f k l0 a1 = some (r1, r2)) :
    Calls Try.prog 17 #[.slice A0 l0.length c0, .int .i64 a1] w fun e w' => ∃ v0_ : Value, e = .returned (.tuple #[v0_, .int .i64 r2]) ∧ Kd.R (Kd.int .i64) 3 w' w.heap.size (fun _ => True) v0_ r1 ∧ Below w.heap.size w w' := by
  have HR0 := Aside0.mk hr0
  have HC0 := Aside0.mk hc0
  clear hr0 hc0
  have HB := Aside0.mk (Below.refl w.heap.size w)
  have H : ((undercroftref08_pool.f l0 a1).bind fun t238 => (if t238 = true then (if 7 ≤ 35184372088832 then (undercroftref08_Orders.l0 k l0 a1 (List.replicate 7 0) 0) else (none)) else (some (([] : List Int), 1)))) = some (r1, r2) := h
  clear h
  replace H := Option.bind_eq_some_iff.mp H
  obtain ⟨t238, A30, H⟩ := H
  replace H : (if t238 = true then (if 7 ≤ 35184372088832 then (undercroftref08_Orders.l0 k l0 a1 (List.replicate 7 0) 0) else (none)) else (some (([] : List Int), 1))) = some (r1, r2) := H
  have A3 := Aside0.mk A30
  clear A30
  by_cases c4 : t238 = true
  · subst c4
    have H1 : (if 7 ≤ 35184372088832 then (undercroftref08_Orders.l0 k l0 a1 (List.replicate 7 0) 0) else (none)) = some (r1, r2) := by rw [if_pos rfl] at H; exact H
    clear H
    have H := H1
    clear H1
    by_cases c5 : 7 ≤ 35184372088832
    rotate_left
    · rw [if_neg c5] at H
      exact absurd H (by simp)
    rw [if_pos c5] at H
    have c5b0 := eq_true c5
    have c5b1 : decide (7 ≤ 35184372088832) = true := decide_eq_true c5
    clear c5
    obtain ⟨y239, hy239⟩ : ∃ y_ : List Int, y_ = (List.replicate 7 0) := ⟨_, rfl⟩
    replace H : (undercroftref08_Orders.l0 k l0 a1 y239 0) = some (r1, r2) := by first | (rw [hy239]; with_reducible exact H) | (have H2_ := (Option.bind_some _ _).symm.trans H; rw [hy239]; with_reducible exact H2_) | (have H2_ := (Option.bind_some _ _).symm.trans H; with_reducible exact H2_) | with_reducible exact H | (rw [hy239]; exact H) | exact H
    have Ny239 := Aside0.mk hy239
    clear hy239
    have H' := Aside0.mk H
    clear H
    go_enter Try.func17, Try.ntmps17
    go_wp2_with (first | ((with_reducible refine gate_callee (f := 25) rfl ?_); refine goesL_ (some 12) rfl rfl Try.func25 (by kernel_rfl) rfl #[.slice A0 l0.length c0, .int .i64 a1] rfl (by (try simp only [List.map_toArray, List.map_cons, List.map_nil]); first | done | rfl | (simp only [List.length_drop, List.length_take]; rfl)) ?_; (with_reducible refine (undercroftref08_pool.calls _ _ l0 a1 true _ ?side1 ?side2 A3.out).mono ?_); (case side1 => repeat (first | exact HR0.out | (with_reducible refine Kd.C_alloc ?_ _) | (with_reducible refine Kd.C_drewN ?_ _) | (with_reducible refine Kd.C_drew ?_))); (case side2 => exact HC0.out); rintro e w' ⟨rfl, ⟨nd, rfl⟩⟩; refine ⟨_, rfl, ?_⟩) | ((with_reducible refine gate_dst (N := 14) rfl ?_); refine Kd.R_make (Kd.int .i64) _ 3 rfl (N := 14) rfl 32 _ _ rfl 7 rfl rfl Try.underlying32 (.int .i64 0) 8 info3 rfl (by decide) (by omega) 0 (ok := fun _ => True) (okp := fun _ => True) rfl (fun _ hk => hk) trivial (by omega) (by omega) (Below.refl _ _) (Nat.le_refl _) ?_; intro v240 w6 ho7 hb hg_ hnew_; clear hg_ hnew_; (first | rw [← Ny239.out] at ho7 | (simp only [Int.reduceToNat] at ho7; rw [← Ny239.out] at ho7)); have n0_ := Aside0.mk (Kd.R_lower ho7 (below_size (by repeat (first | (with_reducible first | exact HB.out | apply below_alloc | apply pw_below_drewN | apply below_drew1) | exact HB.out)))); have n1_ := Aside0.mk (below_step (by repeat (first | (with_reducible first | exact HB.out | apply below_alloc | apply pw_below_drewN | apply below_drew1) | exact HB.out)) hb); clear HB; have HO241 := n0_; have HB := n1_; clear n0_ n1_; clear hb ho7))
    go_loopg [7] k (fun kq v7 w' => ∃ (x6_1 : List Int) (x7_1 : Int), v7 = .int .i64 x7_1 ∧ Aside0 (undercroftref08_Orders.l0 kq l0 a1 x6_1 x7_1 = some (r1, r2)) ∧ Aside0 (kq ≤ k) ∧ Aside0 (Kd.R (Kd.int .i64) 3 w' w.heap.size (fun _ => True) v240 x6_1) ∧ Aside0 (Below w.heap.size w w'))
    case atStart => exact ⟨(y239), (0), (by first | rfl | (simp; done) | (simp [*]; done)), H', ⟨Nat.le_refl _⟩, ⟨by (with_reducible repeat (first | apply Kd.R_alloc | apply Kd.R_drewN | apply Kd.R_drew)); exact HO241.out⟩, ⟨by repeat (first | (with_reducible first | exact HB.out | apply below_alloc | apply pw_below_drewN | apply below_drew1) | exact HB.out)⟩⟩
    case round =>
      clear H'
      try clear c1
      try clear c2
      try clear p2
      try clear c4
      try clear c5
      try clear c5b0
      try clear c5b1
      obtain ⟨x6_1, x7_1, rfl, HA, HK1, HO_6, HB⟩ := hrel
      cases gk with
      | zero => exact absurd HA.out (by simp [undercroftref08_Orders.l0])
      | succ k1 =>
        have H := HA.out
        clear HA
        simp only [undercroftref08_Orders.l0] at H
        by_cases c8 : x7_1 < 7
        rotate_left
        · rw [if_neg c8] at H
          have c8b0 : decide (x7_1 < 7) = false := decide_eq_false c8
          clear c8
          simp only [Option.some.injEq, Prod.mk.injEq] at H
          obtain ⟨rfl, rfl⟩ := H
          go_wp2
          go_ret2
          exact ⟨_, by first | rfl | (simp [errW_none, errW_some] <;> rfl) | (simp [*, errW_none, errW_some] <;> rfl), by (with_reducible repeat (first | apply Kd.R_alloc | apply Kd.R_drewN | apply Kd.R_drew)); exact HO_6.out, by repeat (first | (with_reducible first | exact HB.out | apply below_alloc | apply pw_below_drewN | apply below_drew1) | exact HB.out)⟩
        rw [if_pos c8] at H
        have c8b0 : decide (x7_1 < 7) = true := decide_eq_true c8
        clear c8
        have H' := Aside0.mk H
        clear H
        go_wp2
        go_loopg [8] k1 (fun kq v8 w' => ∃ (x6_2 : List Int) (x8_2 : Int), v8 = .int .i64 x8_2 ∧ Aside0 (undercroftref08_Orders.l1 kq l0 a1 x6_2 x7_1 x8_2 = some (r1, r2)) ∧ Aside0 (kq ≤ k1) ∧ Aside0 (Kd.R (Kd.int .i64) 3 w' w.heap.size (fun _ => True) v240 x6_2) ∧ Aside0 (Below w.heap.size w w'))
        case atStart => exact ⟨(x6_1), (0), (by first | rfl | (simp; done) | (simp [*]; done)), H', ⟨Nat.le_refl _⟩, ⟨by (with_reducible repeat (first | apply Kd.R_alloc | apply Kd.R_drewN | apply Kd.R_drew)); exact HO_6.out⟩, ⟨by repeat (first | (with_reducible first | exact HB.out | apply below_alloc | apply pw_below_drewN | apply below_drew1) | exact HB.out)⟩⟩
        case round =>
          clear H'
          try clear c1
          try clear c2
          try clear p2
          try clear c4
          try clear c5
          try clear c5b0
          try clear c5b1
          try clear c8
          try clear c8b0
          try clear p2
          obtain ⟨x6_2, x8_2, rfl, HA, HK2, HO_6, HB⟩ := hrel
          cases gk with
          | zero => exact absurd HA.out (by simp [undercroftref08_Orders.l1])
          | succ k2 =>
            have H := HA.out
            clear HA
            simp only [undercroftref08_Orders.l1] at H
            by_cases c9 : x8_2 < a1
            rotate_left
            · rw [if_neg c9] at H
              have c9b0 : decide (x8_2 < a1) = false := decide_eq_false c9
              clear c9
              have H' := Aside0.mk H
              clear H
              go_wp2
              go_roundg k2
              case measure => have := HK1.out; have := HK2.out; omega
              case rel => exact ⟨(x6_2), (wrap64 (x7_1 + 1)), (by first | rfl | (simp; done) | (simp [*]; done)), H', ⟨by have := HK1.out; have := HK2.out; omega⟩, ⟨by (with_reducible repeat (first | apply Kd.R_alloc | apply Kd.R_drewN | apply Kd.R_drew)); exact HO_6.out⟩, ⟨by repeat (first | (with_reducible first | exact HB.out | apply below_alloc | apply pw_below_drewN | apply below_drew1) | exact HB.out)⟩⟩
            rw [if_pos c9] at H
            have c9b0 : decide (x8_2 < a1) = true := decide_eq_true c9
            clear c9
            by_cases c10 : 0 ≤ x7_1
            rotate_left
            · rw [if_neg c10] at H
              exact absurd H (by simp)
            rw [if_pos c10] at H
            have c10b0 := eq_true c10
            have c10b1 : decide (0 ≤ x7_1) = true := decide_eq_true c10
            clear c10
            obtain ⟨ji11, hji11⟩ : ∃ j_ : Int, (shl .i64 2 x7_1) = j_ := ⟨_, rfl⟩
            replace H : (if (ji11) = 0 then (none) else ((undercroftref08_free.f k2 l0 a1 x8_2 x7_1).bind fun t242 => (if t242 = true then (if x7_1 = 6 then (if x7_1 < (x6_2.length : Int) then (undercroftref08_Orders.l1 k2 l0 a1 (x6_2.set (x7_1 : Int).toNat (wrap64 ((rd x6_2 x7_1) + 1))) x7_1 (wrap64 (x8_2 + (shl .i64 1 x7_1)))) else (none)) else ((undercroftref08_free.f k2 l0 a1 (wrap64 (x8_2 - (Int.tmod x8_2 (ji11)))) (wrap64 (x7_1 + 1))).bind fun t245 => (if t245 = true then (undercroftref08_Orders.l1 k2 l0 a1 x6_2 x7_1 (wrap64 (x8_2 + (shl .i64 1 x7_1)))) else (if x7_1 < (x6_2.length : Int) then (undercroftref08_Orders.l1 k2 l0 a1 (x6_2.set (x7_1 : Int).toNat (wrap64 ((rd x6_2 x7_1) + 1))) x7_1 (wrap64 (x8_2 + (shl .i64 1 x7_1)))) else (none))))) else (undercroftref08_Orders.l1 k2 l0 a1 x6_2 x7_1 (wrap64 (x8_2 + (shl .i64 1 x7_1))))))) = some (r1, r2) := by first | (rw [hji11] at H; exact H) | (simp only [hji11] at H ⊢; exact H)
            have hji11_ : (IntKind.i64.wrap (2 * 2 ^ min x7_1.toNat 64)) = ji11 := hji11
            have hji11z : x7_1 ≤ 64 → (IntKind.i64.wrap (2 * 2 ^ x7_1.toNat)) = ji11 := shl_small hji11
            have hji11y : (wrap64 (2 * 2 ^ min x7_1.toNat 64)) = ji11 := (i64_w _).symm.trans hji11_
            have hji11x : x7_1 ≤ 64 → (wrap64 (2 * 2 ^ x7_1.toNat)) = ji11 := fun h_ => (i64_w _).symm.trans (hji11z h_)
            by_cases c12 : (ji11) = 0
            · rw [if_pos c12] at H
              exact absurd H (by simp)
            rw [if_neg c12] at H
            have c12b0 : ((ji11) == 0) = false := beq_eq_false_iff_ne.mpr c12
            have c12b1 : ((ji11) != 0) = true := bne_iff_ne.mpr c12
            replace H := Option.bind_eq_some_iff.mp H
            obtain ⟨t242, A130, H⟩ := H
            replace H : (if t242 = true then (if x7_1 = 6 then (if x7_1 < (x6_2.length : Int) then (undercroftref08_Orders.l1 k2 l0 a1 (x6_2.set (x7_1 : Int).toNat (wrap64 ((rd x6_2 x7_1) + 1))) x7_1 (wrap64 (x8_2 + (shl .i64 1 x7_1)))) else (none)) else ((undercroftref08_free.f k2 l0 a1 (wrap64 (x8_2 - (Int.tmod x8_2 (ji11)))) (wrap64 (x7_1 + 1))).bind fun t245 => (if t245 = true then (undercroftref08_Orders.l1 k2 l0 a1 x6_2 x7_1 (wrap64 (x8_2 + (shl .i64 1 x7_1)))) else (if x7_1 < (x6_2.length : Int) then (undercroftref08_Orders.l1 k2 l0 a1 (x6_2.set (x7_1 : Int).toNat (wrap64 ((rd x6_2 x7_1) + 1))) x7_1 (wrap64 (x8_2 + (shl .i64 1 x7_1)))) else (none))))) else (undercroftref08_Orders.l1 k2 l0 a1 x6_2 x7_1 (wrap64 (x8_2 + (shl .i64 1 x7_1))))) = some (r1, r2) := H
            have A13 := Aside0.mk A130
            clear A130
            by_cases c14 : t242 = true
            rotate_left
            · replace c14 := Bool.eq_false_iff.mpr c14
              subst c14
              have H1 : (undercroftref08_Orders.l1 k2 l0 a1 x6_2 x7_1 (wrap64 (x8_2 + (shl .i64 1 x7_1)))) = some (r1, r2) := by rw [if_neg (show ¬ (false = true) by decide)] at H; exact H
              clear H
              have H := H1
              clear H1
              have c39b0 := eq_true (of_decide_eq_true (by first | (with_reducible assumption) | assumption) : 0 ≤ x7_1)
              obtain ⟨ji40, hji40⟩ : ∃ j_ : Int, (shl .i64 1 x7_1) = j_ := ⟨_, rfl⟩
              replace H : (undercroftref08_Orders.l1 k2 l0 a1 x6_2 x7_1 (wrap64 (x8_2 + (ji40)))) = some (r1, r2) := by first | (rw [hji40] at H; exact H) | (simp only [hji40] at H ⊢; exact H)
              (try rw [hji40] at A13)
              have hji40_ : (IntKind.i64.wrap (1 * 2 ^ min x7_1.toNat 64)) = ji40 := hji40
              have hji40z : x7_1 ≤ 64 → (IntKind.i64.wrap (1 * 2 ^ x7_1.toNat)) = ji40 := shl_small hji40
              have hji40u : (IntKind.i64.wrap (2 ^ min x7_1.toNat 64)) = ji40 := by have h_ := hji40_; rw [Int.one_mul] at h_; exact h_
              have hji40v : x7_1 ≤ 64 → (IntKind.i64.wrap (2 ^ x7_1.toNat)) = ji40 := fun hle_ => by have h_ := hji40z hle_; rw [Int.one_mul] at h_; exact h_
              have hji40y : (wrap64 (1 * 2 ^ min x7_1.toNat 64)) = ji40 := (i64_w _).symm.trans hji40_
              have hji40x : x7_1 ≤ 64 → (wrap64 (1 * 2 ^ x7_1.toNat)) = ji40 := fun h_ => (i64_w _).symm.trans (hji40z h_)
              have H' := Aside0.mk H
              clear H
              go_wp2_with (first | ((with_reducible refine gate_callee (f := 33) rfl ?_); refine goesL_ (some 36) rfl rfl Try.func33 (by kernel_rfl) rfl #[.slice A0 l0.length c0, .int .i64 a1, .int .i64 x8_2, .int .i64 x7_1] rfl (by (try simp only [List.map_toArray, List.map_cons, List.map_nil]); first | done | rfl | (simp only [List.length_drop, List.length_take]; rfl)) ?_; (with_reducible refine (undercroftref08_free.calls k2 _ _ l0 a1 x8_2 x7_1 false _ ?side1 ?side2 A13.out).mono ?_); (case side1 => repeat (first | exact (Kd.C_below HR0.out HB.out) | (with_reducible refine Kd.C_alloc ?_ _) | (with_reducible refine Kd.C_drewN ?_ _) | (with_reducible refine Kd.C_drew ?_))); (case side2 => exact HC0.out); rintro e w41 ⟨rfl, hb⟩; refine ⟨_, rfl, ?_⟩; have n0_ := Aside0.mk (Kd.R_below (by (with_reducible repeat (first | apply Kd.R_alloc | apply Kd.R_drewN | apply Kd.R_drew)); exact HO_6.out) hb); have n1_ := Aside0.mk (below_step (by repeat (first | (with_reducible first | exact HB.out | apply below_alloc | apply pw_below_drewN | apply below_drew1) | exact HB.out)) hb); clear HO_6; clear HB; have HO_6 := n0_; have HB := n1_; clear n0_ n1_; (try clear hb); (try clear hb2); (try clear hk); (try clear hi)))
              go_roundg k2
              case measure => have := HK1.out; have := HK2.out; omega
              case rel => exact ⟨(x6_2), (wrap64 (x8_2 + (ji40))), (by first | rfl | (simp; done) | (simp only [← hji40] <;> (first | rfl | simp)) | (simp [*]; done)), H', ⟨by have := HK1.out; have := HK2.out; omega⟩, ⟨by (with_reducible repeat (first | apply Kd.R_alloc | apply Kd.R_drewN | apply Kd.R_drew)); exact HO_6.out⟩, ⟨by repeat (first | (with_reducible first | exact HB.out | apply below_alloc | apply pw_below_drewN | apply below_drew1) | exact HB.out)⟩⟩
            subst c14
            have H1 : (if x7_1 = 6 then (if x7_1 < (x6_2.length : Int) then (undercroftref08_Orders.l1 k2 l0 a1 (x6_2.set (x7_1 : Int).toNat (wrap64 ((rd x6_2 x7_1) + 1))) x7_1 (wrap64 (x8_2 + (shl .i64 1 x7_1)))) else (none)) else ((undercroftref08_free.f k2 l0 a1 (wrap64 (x8_2 - (Int.tmod x8_2 (ji11)))) (wrap64 (x7_1 + 1))).bind fun t245 => (if t245 = true then (undercroftref08_Orders.l1 k2 l0 a1 x6_2 x7_1 (wrap64 (x8_2 + (shl .i64 1 x7_1)))) else (if x7_1 < (x6_2.length : Int) then (undercroftref08_Orders.l1 k2 l0 a1 (x6_2.set (x7_1 : Int).toNat (wrap64 ((rd x6_2 x7_1) + 1))) x7_1 (wrap64 (x8_2 + (shl .i64 1 x7_1)))) else (none))))) = some (r1, r2) := by rw [if_pos rfl] at H; exact H
            clear H
            have H := H1
            clear H1
            by_cases c15 : x7_1 = 6
            · rw [if_pos c15] at H
              have c15b0 : (x7_1 == 6) = true := beq_iff_eq.mpr c15
              have c15b1 : (x7_1 != 6) = false := bne_eq_false_iff_eq.mpr c15
              have c15k : x7_1 ≤ 64 := by omega
              clear c15
              by_cases c16 : x7_1 < (x6_2.length : Int)
              rotate_left
              · rw [if_neg c16] at H
                exact absurd H (by simp)
              rw [if_pos c16] at H
              have c16b0 : decide (x7_1 < (x6_2.length : Int)) = true := decide_eq_true c16
              clear c16
              obtain ⟨y244, hy244⟩ : ∃ y_ : List Int, y_ = (x6_2.set (x7_1 : Int).toNat (wrap64 ((rd x6_2 x7_1) + 1))) := ⟨_, rfl⟩
              replace H : (undercroftref08_Orders.l1 k2 l0 a1 y244 x7_1 (wrap64 (x8_2 + (shl .i64 1 x7_1)))) = some (r1, r2) := by first | (rw [hy244]; with_reducible exact H) | (have H2_ := (Option.bind_some _ _).symm.trans H; rw [hy244]; with_reducible exact H2_) | (have H2_ := (Option.bind_some _ _).symm.trans H; with_reducible exact H2_) | with_reducible exact H | (rw [hy244]; exact H) | exact H
              have Ny244 := Aside0.mk hy244
              clear hy244
              have c18b0 := eq_true (of_decide_eq_true (by first | (with_reducible assumption) | assumption) : 0 ≤ x7_1)
              obtain ⟨ji19, hji19⟩ : ∃ j_ : Int, (shl .i64 1 x7_1) = j_ := ⟨_, rfl⟩
              replace H : (undercroftref08_Orders.l1 k2 l0 a1 y244 x7_1 (wrap64 (x8_2 + (ji19)))) = some (r1, r2) := by first | (rw [hji19] at H; exact H) | (simp only [hji19] at H ⊢; exact H)
              (try rw [hji19] at A13)
              have hji19_ : (IntKind.i64.wrap (1 * 2 ^ min x7_1.toNat 64)) = ji19 := hji19
              have hji19z : x7_1 ≤ 64 → (IntKind.i64.wrap (1 * 2 ^ x7_1.toNat)) = ji19 := shl_small hji19
              have hji19u : (IntKind.i64.wrap (2 ^ min x7_1.toNat 64)) = ji19 := by have h_ := hji19_; rw [Int.one_mul] at h_; exact h_
              have hji19v : x7_1 ≤ 64 → (IntKind.i64.wrap (2 ^ x7_1.toNat)) = ji19 := fun hle_ => by have h_ := hji19z hle_; rw [Int.one_mul] at h_; exact h_
              have hji19y : (wrap64 (1 * 2 ^ min x7_1.toNat 64)) = ji19 := (i64_w _).symm.trans hji19_
              have hji19x : x7_1 ≤ 64 → (wrap64 (1 * 2 ^ x7_1.toNat)) = ji19 := fun h_ => (i64_w _).symm.trans (hji19z h_)
              have H' := Aside0.mk H
              clear H
              go_wp2_with (first | ((with_reducible refine gate_callee (f := 33) rfl ?_); refine goesL_ (some 36) rfl rfl Try.func33 (by kernel_rfl) rfl #[.slice A0 l0.length c0, .int .i64 a1, .int .i64 x8_2, .int .i64 x7_1] rfl (by (try simp only [List.map_toArray, List.map_cons, List.map_nil]); first | done | rfl | (simp only [List.length_drop, List.length_take]; rfl)) ?_; (with_reducible refine (undercroftref08_free.calls k2 _ _ l0 a1 x8_2 x7_1 true _ ?side1 ?side2 A13.out).mono ?_); (case side1 => repeat (first | exact (Kd.C_below HR0.out HB.out) | (with_reducible refine Kd.C_alloc ?_ _) | (with_reducible refine Kd.C_drewN ?_ _) | (with_reducible refine Kd.C_drew ?_))); (case side2 => exact HC0.out); rintro e w20 ⟨rfl, hb⟩; refine ⟨_, rfl, ?_⟩; have n0_ := Aside0.mk (Kd.R_below (by (with_reducible repeat (first | apply Kd.R_alloc | apply Kd.R_drewN | apply Kd.R_drew)); exact HO_6.out) hb); have n1_ := Aside0.mk (below_step (by repeat (first | (with_reducible first | exact HB.out | apply below_alloc | apply pw_below_drewN | apply below_drew1) | exact HB.out)) hb); clear HO_6; clear HB; have HO_6 := n0_; have HB := n1_; clear n0_ n1_; (try clear hb); (try clear hb2); (try clear hk); (try clear hi); obtain ⟨Ao21, co21, eo21⟩ := Kd.R_slice HO_6.out; subst eo21; have p243 : 0 ≤ (x7_1 : Int) := of_decide_eq_true (by first | (with_reducible assumption) | assumption); have q243 : x7_1 < (x6_2.length : Int) := of_decide_eq_true (by first | (with_reducible assumption) | assumption); obtain ⟨ad243, e243, hx243_0⟩ := Kd.at_int (Kd.R_reads' HO_6.out).2.2 x7_1 p243 q243; cases e243; replace p243 := eq_true p243; replace q243 := eq_true q243; have p17 : 0 ≤ (x7_1 : Int) := of_decide_eq_true (by first | (with_reducible assumption) | assumption); have q17 : (x7_1 : Int) < ((x6_2.length : Int) : Int) := of_decide_eq_true (by first | (with_reducible assumption) | assumption); obtain ⟨go17, co17, eo17, gb17, gl17, cl17, HG17⟩ := Kd.R_form HO_6.out (by omega); (first | cases eo17 | (injection eo17 with ea_ en_ ec_; (first | subst ea_ | (injection ea_ with ea_; subst ea_)); subst ec_; clear en_)); have GB17 := Aside0.mk gb17; have GG17 := Aside0.mk HG17; clear gb17 gl17 HG17; (first | simp only [add_plain] at hx243_0 | skip); obtain ⟨hx17_0, hf17_0⟩ := Kd.R_celln 0 HO_6.out (x7_1 : Int) p17 q17; replace p17 := eq_true p17; replace q17 := eq_true q17; obtain ⟨hy22_, hz22_⟩ := Kd.R_celln 0 HO_6.out (x7_1 : Int) (of_decide_eq_true (by first | (with_reducible assumption) | assumption)) (of_decide_eq_true (by first | (with_reducible assumption) | assumption)); have HP22 := Kd.R_putg HO_6.out (x7_1 : Int) (wrap64 ((rd x6_2 x7_1) + 1))) | ((with_reducible refine gate_store (t := 3) (p := 55) rfl ?_); refine store_event (t := 3) (p := 55) (v := ?vo_w23) (w1 := (w20.setCell ⟨go17, (x7_1 : Int).toNat, none⟩ (.int .i64 (wrap64 ((rd x6_2 x7_1) + 1))))) ?hg ?ho ?hn ?hr ?_; (case ho => rfl); (case hg => rfl); (case hn => rfl); (case hr => go_simp; first | done | rfl); intro w23 hw; have hg : w20.grownBy w23 (some go17) := (by rw [hw]; exact HP22.2); have hp_ : Kd.R (Kd.int .i64) 3 w23 w.heap.size (fun _ => True) (.slice (some ⟨go17, 0, none⟩) x6_2.length co21) y244 := (by rw [hw, Ny244.out]; exact HP22.1); clear HP22; have n0_ := Aside0.mk (hp_); have n1_ := Aside0.mk ((by rw [hw]; exact below_set (HB.out) GB17.out : Below w.heap.size w w23)); clear HO_6; clear HB; have HO_6 := n0_; have HB := n1_; clear n0_ n1_; clear hg hw hp_))
              go_roundg k2
              case measure => have := HK1.out; have := HK2.out; omega
              case rel => exact ⟨(y244), (wrap64 (x8_2 + (ji19))), (by first | rfl | (simp; done) | (simp only [← hji19] <;> (first | rfl | simp)) | (simp [*]; done)), H', ⟨by have := HK1.out; have := HK2.out; omega⟩, ⟨by (with_reducible repeat (first | apply Kd.R_alloc | apply Kd.R_drewN | apply Kd.R_drew)); exact HO_6.out⟩, ⟨by repeat (first | (with_reducible first | exact HB.out | apply below_alloc | apply pw_below_drewN | apply below_drew1) | exact HB.out)⟩⟩
            rw [if_neg c15] at H
            have c15b0 : (x7_1 == 6) = false := beq_eq_false_iff_ne.mpr c15
            have c15b1 : (x7_1 != 6) = true := bne_iff_ne.mpr c15
            replace H := Option.bind_eq_some_iff.mp H
            obtain ⟨t245, A240, H⟩ := H
            replace H : (if t245 = true then (undercroftref08_Orders.l1 k2 l0 a1 x6_2 x7_1 (wrap64 (x8_2 + (shl .i64 1 x7_1)))) else (if x7_1 < (x6_2.length : Int) then (undercroftref08_Orders.l1 k2 l0 a1 (x6_2.set (x7_1 : Int).toNat (wrap64 ((rd x6_2 x7_1) + 1))) x7_1 (wrap64 (x8_2 + (shl .i64 1 x7_1)))) else (none))) = some (r1, r2) := H
            have A24 := Aside0.mk A240
            clear A240
            by_cases c25 : t245 = true
            · subst c25
              have H1 : (undercroftref08_Orders.l1 k2 l0 a1 x6_2 x7_1 (wrap64 (x8_2 + (shl .i64 1 x7_1)))) = some (r1, r2) := by rw [if_pos rfl] at H; exact H
              clear H
              have H := H1
              clear H1
              have c26b0 := eq_true (of_decide_eq_true (by first | (with_reducible assumption) | assumption) : 0 ≤ x7_1)
              obtain ⟨ji27, hji27⟩ : ∃ j_ : Int, (shl .i64 1 x7_1) = j_ := ⟨_, rfl⟩
              replace H : (undercroftref08_Orders.l1 k2 l0 a1 x6_2 x7_1 (wrap64 (x8_2 + (ji27)))) = some (r1, r2) := by first | (rw [hji27] at H; exact H) | (simp only [hji27] at H ⊢; exact H)
              (try rw [hji27] at A13)
              (try rw [hji27] at A24)
              have hji27_ : (IntKind.i64.wrap (1 * 2 ^ min x7_1.toNat 64)) = ji27 := hji27
              have hji27z : x7_1 ≤ 64 → (IntKind.i64.wrap (1 * 2 ^ x7_1.toNat)) = ji27 := shl_small hji27
              have hji27u : (IntKind.i64.wrap (2 ^ min x7_1.toNat 64)) = ji27 := by have h_ := hji27_; rw [Int.one_mul] at h_; exact h_
              have hji27v : x7_1 ≤ 64 → (IntKind.i64.wrap (2 ^ x7_1.toNat)) = ji27 := fun hle_ => by have h_ := hji27z hle_; rw [Int.one_mul] at h_; exact h_
              have hji27y : (wrap64 (1 * 2 ^ min x7_1.toNat 64)) = ji27 := (i64_w _).symm.trans hji27_
              have hji27x : x7_1 ≤ 64 → (wrap64 (1 * 2 ^ x7_1.toNat)) = ji27 := fun h_ => (i64_w _).symm.trans (hji27z h_)
              have H' := Aside0.mk H
              clear H
              go_wp2_with (first | ((with_reducible refine gate_callee (f := 33) rfl ?_); refine goesL_ (some 36) rfl rfl Try.func33 (by kernel_rfl) rfl #[.slice A0 l0.length c0, .int .i64 a1, .int .i64 x8_2, .int .i64 x7_1] rfl (by (try simp only [List.map_toArray, List.map_cons, List.map_nil]); first | done | rfl | (simp only [List.length_drop, List.length_take]; rfl)) ?_; (with_reducible refine (undercroftref08_free.calls k2 _ _ l0 a1 x8_2 x7_1 true _ ?side1 ?side2 A13.out).mono ?_); (case side1 => repeat (first | exact (Kd.C_below HR0.out HB.out) | (with_reducible refine Kd.C_alloc ?_ _) | (with_reducible refine Kd.C_drewN ?_ _) | (with_reducible refine Kd.C_drew ?_))); (case side2 => exact HC0.out); rintro e w28 ⟨rfl, hb⟩; refine ⟨_, rfl, ?_⟩; have n0_ := Aside0.mk (Kd.R_below (by (with_reducible repeat (first | apply Kd.R_alloc | apply Kd.R_drewN | apply Kd.R_drew)); exact HO_6.out) hb); have n1_ := Aside0.mk (below_step (by repeat (first | (with_reducible first | exact HB.out | apply below_alloc | apply pw_below_drewN | apply below_drew1) | exact HB.out)) hb); clear HO_6; clear HB; have HO_6 := n0_; have HB := n1_; clear n0_ n1_; (try clear hb); (try clear hb2); (try clear hk); (try clear hi)) | (go_at_call 33; (with_reducible refine (undercroftref08_free.calls k2 _ _ l0 a1 (wrap64 (x8_2 - (Int.tmod x8_2 (ji11)))) (wrap64 (x7_1 + 1)) true _ ?side1 ?side2 A24.out).mono ?_); (case side1 => repeat (first | exact (Kd.C_below HR0.out HB.out) | (with_reducible refine Kd.C_alloc ?_ _) | (with_reducible refine Kd.C_drewN ?_ _) | (with_reducible refine Kd.C_drew ?_))); (case side2 => exact HC0.out); rintro e w29 ⟨rfl, hb⟩; have n0_ := Aside0.mk (Kd.R_below (by (with_reducible repeat (first | apply Kd.R_alloc | apply Kd.R_drewN | apply Kd.R_drew)); exact HO_6.out) hb); have n1_ := Aside0.mk (below_step (by repeat (first | (with_reducible first | exact HB.out | apply below_alloc | apply pw_below_drewN | apply below_drew1) | exact HB.out)) hb); clear HO_6; clear HB; have HO_6 := n0_; have HB := n1_; clear n0_ n1_; (try clear hb); (try clear hb2); (try clear hk); (try clear hi)))
              go_roundg k2
              case measure => have := HK1.out; have := HK2.out; omega
              case rel => exact ⟨(x6_2), (wrap64 (x8_2 + (ji27))), (by first | rfl | (simp; done) | (simp only [← hji27] <;> (first | rfl | simp)) | (simp [*]; done)), H', ⟨by have := HK1.out; have := HK2.out; omega⟩, ⟨by (with_reducible repeat (first | apply Kd.R_alloc | apply Kd.R_drewN | apply Kd.R_drew)); exact HO_6.out⟩, ⟨by repeat (first | (with_reducible first | exact HB.out | apply below_alloc | apply pw_below_drewN | apply below_drew1) | exact HB.out)⟩⟩
            replace c25 := Bool.eq_false_iff.mpr c25
            subst c25
            have H1 : (if x7_1 < (x6_2.length : Int) then (undercroftref08_Orders.l1 k2 l0 a1 (x6_2.set (x7_1 : Int).toNat (wrap64 ((rd x6_2 x7_1) + 1))) x7_1 (wrap64 (x8_2 + (shl .i64 1 x7_1)))) else (none)) = some (r1, r2) := by rw [if_neg (show ¬ (false = true) by decide)] at H; exact H
            clear H
            have H := H1
            clear H1
            by_cases c30 : x7_1 < (x6_2.length : Int)
            rotate_left
            · rw [if_neg c30] at H
              exact absurd H (by simp)
            rw [if_pos c30] at H
            have c30b0 : decide (x7_1 < (x6_2.length : Int)) = true := decide_eq_true c30
            clear c30
            obtain ⟨y247, hy247⟩ : ∃ y_ : List Int, y_ = (x6_2.set (x7_1 : Int).toNat (wrap64 ((rd x6_2 x7_1) + 1))) := ⟨_, rfl⟩
            replace H : (undercroftref08_Orders.l1 k2 l0 a1 y247 x7_1 (wrap64 (x8_2 + (shl .i64 1 x7_1)))) = some (r1, r2) := by first | (rw [hy247]; with_reducible exact H) | (have H2_ := (Option.bind_some _ _).symm.trans H; rw [hy247]; with_reducible exact H2_) | (have H2_ := (Option.bind_some _ _).symm.trans H; with_reducible exact H2_) | with_reducible exact H | (rw [hy247]; exact H) | exact H
            have Ny247 := Aside0.mk hy247
            clear hy247
            have c32b0 := eq_true (of_decide_eq_true (by first | (with_reducible assumption) | assumption) : 0 ≤ x7_1)
            obtain ⟨ji33, hji33⟩ : ∃ j_ : Int, (shl .i64 1 x7_1) = j_ := ⟨_, rfl⟩
            replace H : (undercroftref08_Orders.l1 k2 l0 a1 y247 x7_1 (wrap64 (x8_2 + (ji33)))) = some (r1, r2) := by first | (rw [hji33] at H; exact H) | (simp only [hji33] at H ⊢; exact H)
            (try rw [hji33] at A13)
            (try rw [hji33] at A24)
            have hji33_ : (IntKind.i64.wrap (1 * 2 ^ min x7_1.toNat 64)) = ji33 := hji33
            have hji33z : x7_1 ≤ 64 → (IntKind.i64.wrap (1 * 2 ^ x7_1.toNat)) = ji33 := shl_small hji33
            have hji33u : (IntKind.i64.wrap (2 ^ min x7_1.toNat 64)) = ji33 := by have h_ := hji33_; rw [Int.one_mul] at h_; exact h_
            have hji33v : x7_1 ≤ 64 → (IntKind.i64.wrap (2 ^ x7_1.toNat)) = ji33 := fun hle_ => by have h_ := hji33z hle_; rw [Int.one_mul] at h_; exact h_
            have hji33y : (wrap64 (1 * 2 ^ min x7_1.toNat 64)) = ji33 := (i64_w _).symm.trans hji33_
            have hji33x : x7_1 ≤ 64 → (wrap64 (1 * 2 ^ x7_1.toNat)) = ji33 := fun h_ => (i64_w _).symm.trans (hji33z h_)
            have H' := Aside0.mk H
            clear H
            go_wp2_with (first | ((with_reducible refine gate_callee (f := 33) rfl ?_); refine goesL_ (some 36) rfl rfl Try.func33 (by kernel_rfl) rfl #[.slice A0 l0.length c0, .int .i64 a1, .int .i64 x8_2, .int .i64 x7_1] rfl (by (try simp only [List.map_toArray, List.map_cons, List.map_nil]); first | done | rfl | (simp only [List.length_drop, List.length_take]; rfl)) ?_; (with_reducible refine (undercroftref08_free.calls k2 _ _ l0 a1 x8_2 x7_1 true _ ?side1 ?side2 A13.out).mono ?_); (case side1 => repeat (first | exact (Kd.C_below HR0.out HB.out) | (with_reducible refine Kd.C_alloc ?_ _) | (with_reducible refine Kd.C_drewN ?_ _) | (with_reducible refine Kd.C_drew ?_))); (case side2 => exact HC0.out); rintro e w34 ⟨rfl, hb⟩; refine ⟨_, rfl, ?_⟩; have n0_ := Aside0.mk (Kd.R_below (by (with_reducible repeat (first | apply Kd.R_alloc | apply Kd.R_drewN | apply Kd.R_drew)); exact HO_6.out) hb); have n1_ := Aside0.mk (below_step (by repeat (first | (with_reducible first | exact HB.out | apply below_alloc | apply pw_below_drewN | apply below_drew1) | exact HB.out)) hb); clear HO_6; clear HB; have HO_6 := n0_; have HB := n1_; clear n0_ n1_; (try clear hb); (try clear hb2); (try clear hk); (try clear hi)) | (go_at_call 33; (with_reducible refine (undercroftref08_free.calls k2 _ _ l0 a1 (wrap64 (x8_2 - (Int.tmod x8_2 (ji11)))) (wrap64 (x7_1 + 1)) false _ ?side1 ?side2 A24.out).mono ?_); (case side1 => repeat (first | exact (Kd.C_below HR0.out HB.out) | (with_reducible refine Kd.C_alloc ?_ _) | (with_reducible refine Kd.C_drewN ?_ _) | (with_reducible refine Kd.C_drew ?_))); (case side2 => exact HC0.out); rintro e w35 ⟨rfl, hb⟩; have n0_ := Aside0.mk (Kd.R_below (by (with_reducible repeat (first | apply Kd.R_alloc | apply Kd.R_drewN | apply Kd.R_drew)); exact HO_6.out) hb); have n1_ := Aside0.mk (below_step (by repeat (first | (with_reducible first | exact HB.out | apply below_alloc | apply pw_below_drewN | apply below_drew1) | exact HB.out)) hb); clear HO_6; clear HB; have HO_6 := n0_; have HB := n1_; clear n0_ n1_; (try clear hb); (try clear hb2); (try clear hk); (try clear hi); obtain ⟨Ao36, co36, eo36⟩ := Kd.R_slice HO_6.out; subst eo36; have p246 : 0 ≤ (x7_1 : Int) := of_decide_eq_true (by first | (with_reducible assumption) | assumption); have q246 : x7_1 < (x6_2.length : Int) := of_decide_eq_true (by first | (with_reducible assumption) | assumption); obtain ⟨ad246, e246, hx246_0⟩ := Kd.at_int (Kd.R_reads' HO_6.out).2.2 x7_1 p246 q246; cases e246; replace p246 := eq_true p246; replace q246 := eq_true q246; have p31 : 0 ≤ (x7_1 : Int) := of_decide_eq_true (by first | (with_reducible assumption) | assumption); have q31 : (x7_1 : Int) < ((x6_2.length : Int) : Int) := of_decide_eq_true (by first | (with_reducible assumption) | assumption); obtain ⟨go31, co31, eo31, gb31, gl31, cl31, HG31⟩ := Kd.R_form HO_6.out (by omega); (first | cases eo31 | (injection eo31 with ea_ en_ ec_; (first | subst ea_ | (injection ea_ with ea_; subst ea_)); subst ec_; clear en_)); have GB31 := Aside0.mk gb31; have GG31 := Aside0.mk HG31; clear gb31 gl31 HG31; (first | simp only [add_plain] at hx246_0 | skip); obtain ⟨hx31_0, hf31_0⟩ := Kd.R_celln 0 HO_6.out (x7_1 : Int) p31 q31; replace p31 := eq_true p31; replace q31 := eq_true q31; obtain ⟨hy37_, hz37_⟩ := Kd.R_celln 0 HO_6.out (x7_1 : Int) (of_decide_eq_true (by first | (with_reducible assumption) | assumption)) (of_decide_eq_true (by first | (with_reducible assumption) | assumption)); have HP37 := Kd.R_putg HO_6.out (x7_1 : Int) (wrap64 ((rd x6_2 x7_1) + 1))) | ((with_reducible refine gate_store (t := 3) (p := 55) rfl ?_); refine store_event (t := 3) (p := 55) (v := ?vo_w38) (w1 := (w35.setCell ⟨go31, (x7_1 : Int).toNat, none⟩ (.int .i64 (wrap64 ((rd x6_2 x7_1) + 1))))) ?hg ?ho ?hn ?hr ?_; (case ho => rfl); (case hg => rfl); (case hn => rfl); (case hr => go_simp; first | done | rfl); intro w38 hw; have hg : w35.grownBy w38 (some go31) := (by rw [hw]; exact HP37.2); have hp_ : Kd.R (Kd.int .i64) 3 w38 w.heap.size (fun _ => True) (.slice (some ⟨go31, 0, none⟩) x6_2.length co36) y247 := (by rw [hw, Ny247.out]; exact HP37.1); clear HP37; have n0_ := Aside0.mk (hp_); have n1_ := Aside0.mk ((by rw [hw]; exact below_set (HB.out) GB31.out : Below w.heap.size w w38)); clear HO_6; clear HB; have HO_6 := n0_; have HB := n1_; clear n0_ n1_; clear hg hw hp_))
            go_roundg k2
            case measure => have := HK1.out; have := HK2.out; omega
            case rel => exact ⟨(y247), (wrap64 (x8_2 + (ji33))), (by first | rfl | (simp; done) | (simp only [← hji33] <;> (first | rfl | simp)) | (simp [*]; done)), H', ⟨by have := HK1.out; have := HK2.out; omega⟩, ⟨by (with_reducible repeat (first | apply Kd.R_alloc | apply Kd.R_drewN | apply Kd.R_drew)); exact HO_6.out⟩, ⟨by repeat (first | (with_reducible first | exact HB.out | apply below_alloc | apply pw_below_drewN | apply below_drew1) | exact HB.out)⟩⟩
  · replace c4 := Bool.eq_false_iff.mpr c4
    subst c4
    have H1 : (some (([] : List Int), 1)) = some (r1, r2) := by rw [if_neg (show ¬ (false = true) by decide)] at H; exact H
    clear H
    have H := H1
    clear H1
    simp only [Option.some.injEq, Prod.mk.injEq] at H
    obtain ⟨rfl, rfl⟩ := H
    go_enter Try.func17, Try.ntmps17
    go_wp2_with (first | ((with_reducible refine gate_callee (f := 25) rfl ?_); refine goesL_ (some 12) rfl rfl Try.func25 (by kernel_rfl) rfl #[.slice A0 l0.length c0, .int .i64 a1] rfl (by (try simp only [List.map_toArray, List.map_cons, List.map_nil]); first | done | rfl | (simp only [List.length_drop, List.length_take]; rfl)) ?_; (with_reducible refine (undercroftref08_pool.calls _ _ l0 a1 false _ ?side1 ?side2 A3.out).mono ?_); (case side1 => repeat (first | exact HR0.out | (with_reducible refine Kd.C_alloc ?_ _) | (with_reducible refine Kd.C_drewN ?_ _) | (with_reducible refine Kd.C_drew ?_))); (case side2 => exact HC0.out); rintro e w' ⟨rfl, ⟨nd, rfl⟩⟩; refine ⟨_, rfl, ?_⟩))
    go_ret2
    exact ⟨_, by first | rfl | (simp [errW_none, errW_some] <;> rfl) | (simp [*, errW_none, errW_some] <;> rfl), by first | exact Kd.R_nil _ _ _ _ _ | exact Kd.N_nil _ _ _ _ _ | exact Kd.V_nil _ _ _ _ _ | exact Kd.Q_nil _ _ _ _ _ | exact Kd.S_nil _ _ _ _ _, by repeat (first | (with_reducible first | exact HB.out | apply below_alloc | apply pw_below_drewN | apply below_drew1) | exact HB.out)⟩

end Go.Proofs.Ytlhpejdbmbpmhaa.U
