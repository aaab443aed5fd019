/- Written by uprint.py (ours) for this seat: functions of the translation as Lean functions, and what their calls do. Not trusted: Lean checks it. -/
import Derived.Test.YtlhpejdbmbpmhaaUx0
import Derived.Test.YtlhpejdbmbpmhaaUx10
namespace Go.Proofs.Ytlhpejdbmbpmhaa.U
open Go.RowKit Go.Proofs.YtlhpejdbmbpmhaaW.PrintWords Go.Proofs.YtlhpejdbmbpmhaaW.PrintLast Go.Proofs.YtlhpejdbmbpmhaaW.PrintMore
attribute [local go_sem] max2_int min2_int max_two min_two max_three min_three max_four min_four   -- for this text's walks alone
set_option linter.unusedVariables false
set_option linter.unusedSimpArgs false

/-! ### undercroftref08_find: function 26 -/
def undercroftref08_find.l0 : Nat → List Int → Int → Int → Int → Int → Int → Option (Int)
  | 0, _, _, _, _, _, _ => none
  | k + 1, x0, x1, x2, x3, x9, x10 => if x10 < x1 then ((undercroftref08_free.f k x0 x1 x10 x2).bind fun t150 => (if t150 = true then (if x10 ≥ x3 then (some x10) else (if x9 < 0 then (if 0 ≤ x2 then (undercroftref08_find.l0 k x0 x1 x2 x3 x10 (wrap64 (x10 + (shl .i64 1 x2)))) else (none)) else (if 0 ≤ x2 then (undercroftref08_find.l0 k x0 x1 x2 x3 x9 (wrap64 (x10 + (shl .i64 1 x2)))) else (none)))) else (if 0 ≤ x2 then (undercroftref08_find.l0 k x0 x1 x2 x3 x9 (wrap64 (x10 + (shl .i64 1 x2)))) else (none)))) else (some x9)
def undercroftref08_find.f (k : Nat) (l0 : List Int) (a1 : Int) (a2 : Int) (a3 : Int) : Option (Int) := undercroftref08_find.l0 k l0 a1 a2 a3 (-1) 0
theorem undercroftref08_find.mono_l : ∀ k, (∀ y0 y1 y2 y3 y4 y5, LeO (undercroftref08_find.l0 k y0 y1 y2 y3 y4 y5) (undercroftref08_find.l0 (k + 1) y0 y1 y2 y3 y4 y5))
  | 0 => fun _ _ _ _ _ _ r h => by simp [undercroftref08_find.l0] at h
  | k + 1 => by
    have ih0 := undercroftref08_find.mono_l k
    · intro y0 y1 y2 y3 y4 y5
      unfold undercroftref08_find.l0
      repeat' first
      | (with_reducible exact ih0 _ _ _ _ _ _)
      | (with_reducible exact undercroftref08_free.mono _ _ _ _ _)
      | (with_reducible exact LeO.refl _)
      | (with_reducible exact LeO.none _)
      | (with_reducible refine LeO.ite ?_ ?_)
      | (with_reducible refine LeO.bind ?_ (fun _ => ?_))
      | exact ih0 _ _ _ _ _ _
      | exact undercroftref08_free.mono _ _ _ _ _
      | exact LeO.none _
      | refine LeO.ite ?_ ?_
      | refine LeO.bind ?_ (fun _ => ?_)
theorem undercroftref08_find.mono : ∀ a0 a1 a2 a3 k, LeO (undercroftref08_find.f k a0 a1 a2 a3) (undercroftref08_find.f (k + 1) a0 a1 a2 a3) := by
  intro a0 a1 a2 a3 k
  have ih0 := undercroftref08_find.mono_l k
  unfold undercroftref08_find.f
  repeat' first
      | (with_reducible exact ih0 _ _ _ _ _ _)
      | (with_reducible exact undercroftref08_free.mono _ _ _ _ _)
      | (with_reducible exact LeO.refl _)
      | (with_reducible exact LeO.none _)
      | (with_reducible refine LeO.ite ?_ ?_)
      | (with_reducible refine LeO.bind ?_ (fun _ => ?_))
      | exact ih0 _ _ _ _ _ _
      | exact undercroftref08_free.mono _ _ _ _ _
      | exact LeO.none _
      | refine LeO.ite ?_ ?_
      | refine LeO.bind ?_ (fun _ => ?_)
set_option maxHeartbeats 8000000 in
set_option maxRecDepth 100000 in
theorem undercroftref08_find.calls (k : Nat) (A0 : Option Addr) (c0 : Nat) (l0 : List Int) (a1 : Int) (a2 : Int) (a3 : Int) (r : Int) (w : World) (hr0 : Kd.C (Kd.int .u8) w A0 l0.length l0) (hc0 : l0.length ≤ c0) (h : undercroftref08_find.f k l0 a1 a2 a3 = some r) :
    Calls Try.prog 26 #[.slice A0 l0.length c0, .int .i64 a1, .int .i64 a2, .int .i64 a3] w fun e w' => e = .returned (.int .i64 r) ∧ Below w.heap.size w w' := by
  have HR0 := Aside0.mk hr0
  have HC0 := Aside0.mk hc0
  clear hr0 hc0
  have HB := Aside0.mk (Below.refl w.heap.size w)
  have H : (undercroftref08_find.l0 k l0 a1 a2 a3 (-1) 0) = some r := h
  clear h
  have H' := Aside0.mk H
  clear H
  go_enter Try.func26, Try.ntmps26
  go_wp2
  go_loopg [9, 10] k (fun kq v9 v10 w' => ∃ (x9_1 : Int) (x10_1 : Int), v9 = .int .i64 x9_1 ∧ v10 = .int .i64 x10_1 ∧ Aside0 (undercroftref08_find.l0 kq l0 a1 a2 a3 x9_1 x10_1 = some r) ∧ Aside0 (kq ≤ k) ∧ Aside0 (Below w.heap.size w w'))
  case atStart => exact ⟨((-1)), (0), (by first | rfl | (simp; done) | (simp [*]; done)), (by first | rfl | (simp; done) | (simp [*]; done)), H', ⟨Nat.le_refl _⟩, ⟨by repeat (first | (with_reducible first | exact HB.out | apply below_alloc | apply pw_below_drewN | apply below_drew1) | exact HB.out)⟩⟩
  case round =>
    clear H'
    try clear c2
    try clear p2
    obtain ⟨x9_1, x10_1, rfl, rfl, HA, HK1, HB⟩ := hrel
    cases gk with
    | zero => exact absurd HA.out (by simp [undercroftref08_find.l0])
    | succ k1 =>
      have H := HA.out
      clear HA
      simp only [undercroftref08_find.l0] at H
      by_cases c5 : x10_1 < a1
      · rw [if_pos c5] at H
        have c5b0 : decide (x10_1 < a1) = true := decide_eq_true c5
        clear c5
        replace H := Option.bind_eq_some_iff.mp H
        obtain ⟨t150, A60, H⟩ := H
        replace H : (if t150 = true then (if x10_1 ≥ a3 then (some x10_1) else (if x9_1 < 0 then (if 0 ≤ a2 then (undercroftref08_find.l0 k1 l0 a1 a2 a3 x10_1 (wrap64 (x10_1 + (shl .i64 1 a2)))) else (none)) else (if 0 ≤ a2 then (undercroftref08_find.l0 k1 l0 a1 a2 a3 x9_1 (wrap64 (x10_1 + (shl .i64 1 a2)))) else (none)))) else (if 0 ≤ a2 then (undercroftref08_find.l0 k1 l0 a1 a2 a3 x9_1 (wrap64 (x10_1 + (shl .i64 1 a2)))) else (none))) = some r := H
        have A6 := Aside0.mk A60
        clear A60
        by_cases c7 : t150 = true
        rotate_left
        · replace c7 := Bool.eq_false_iff.mpr c7
          subst c7
          have H1 : (if 0 ≤ a2 then (undercroftref08_find.l0 k1 l0 a1 a2 a3 x9_1 (wrap64 (x10_1 + (shl .i64 1 a2)))) else (none)) = some r := by rw [if_neg (show ¬ (false = true) by decide)] at H; exact H
          clear H
          have H := H1
          clear H1
          by_cases c17 : 0 ≤ a2
          rotate_left
          · rw [if_neg c17] at H
            exact absurd H (by simp)
          rw [if_pos c17] at H
          have c17b0 := eq_true c17
          have c17b1 : decide (0 ≤ a2) = true := decide_eq_true c17
          clear c17
          obtain ⟨ji18, hji18⟩ : ∃ j_ : Int, (shl .i64 1 a2) = j_ := ⟨_, rfl⟩
          replace H : (undercroftref08_find.l0 k1 l0 a1 a2 a3 x9_1 (wrap64 (x10_1 + (ji18)))) = some r := by first | (rw [hji18] at H; exact H) | (simp only [hji18] at H ⊢; exact H)
          (try rw [hji18] at A6)
          have hji18_ : (IntKind.i64.wrap (1 * 2 ^ min a2.toNat 64)) = ji18 := hji18
          have hji18z : a2 ≤ 64 → (IntKind.i64.wrap (1 * 2 ^ a2.toNat)) = ji18 := shl_small hji18
          have hji18u : (IntKind.i64.wrap (2 ^ min a2.toNat 64)) = ji18 := by have h_ := hji18_; rw [Int.one_mul] at h_; exact h_
          have hji18v : a2 ≤ 64 → (IntKind.i64.wrap (2 ^ a2.toNat)) = ji18 := fun hle_ => by have h_ := hji18z hle_; rw [Int.one_mul] at h_; exact h_
          have hji18y : (wrap64 (1 * 2 ^ min a2.toNat 64)) = ji18 := (i64_w _).symm.trans hji18_
          have hji18x : a2 ≤ 64 → (wrap64 (1 * 2 ^ a2.toNat)) = ji18 := fun h_ => (i64_w _).symm.trans (hji18z h_)
          have H' := Aside0.mk H
          clear H
          go_wp2_with (first | ((with_reducible refine gate_callee (f := 33) rfl ?_); refine goesL_ (some 22) rfl rfl Try.func33 (by kernel_rfl) rfl #[.slice A0 l0.length c0, .int .i64 a1, .int .i64 x10_1, .int .i64 a2] rfl (by (try simp only [List.map_toArray, List.map_cons, List.map_nil]); first | done | rfl | (simp only [List.length_drop, List.length_take]; rfl)) ?_; (with_reducible refine (undercroftref08_free.calls k1 _ _ l0 a1 x10_1 a2 false _ ?side1 ?side2 A6.out).mono ?_); (case side1 => repeat (first | exact (Kd.C_below HR0.out HB.out) | (with_reducible refine Kd.C_alloc ?_ _) | (with_reducible refine Kd.C_drewN ?_ _) | (with_reducible refine Kd.C_drew ?_))); (case side2 => exact HC0.out); rintro e w19 ⟨rfl, hb⟩; refine ⟨_, rfl, ?_⟩; have n0_ := Aside0.mk (below_step (by repeat (first | (with_reducible first | exact HB.out | apply below_alloc | apply pw_below_drewN | apply below_drew1) | exact HB.out)) hb); clear HB; have HB := n0_; clear n0_; (try clear hb); (try clear hb2); (try clear hk); (try clear hi)))
          go_roundg k1
          case measure => have := HK1.out; omega
          case rel => exact ⟨(x9_1), (wrap64 (x10_1 + (ji18))), (by first | rfl | (simp; done) | (simp [*]; done)), (by first | rfl | (simp; done) | (simp only [← hji18] <;> (first | rfl | simp)) | (simp [*]; done)), H', ⟨by have := HK1.out; omega⟩, ⟨by repeat (first | (with_reducible first | exact HB.out | apply below_alloc | apply pw_below_drewN | apply below_drew1) | exact HB.out)⟩⟩
        subst c7
        have H1 : (if x10_1 ≥ a3 then (some x10_1) else (if x9_1 < 0 then (if 0 ≤ a2 then (undercroftref08_find.l0 k1 l0 a1 a2 a3 x10_1 (wrap64 (x10_1 + (shl .i64 1 a2)))) else (none)) else (if 0 ≤ a2 then (undercroftref08_find.l0 k1 l0 a1 a2 a3 x9_1 (wrap64 (x10_1 + (shl .i64 1 a2)))) else (none)))) = some r := by rw [if_pos rfl] at H; exact H
        clear H
        have H := H1
        clear H1
        by_cases c8 : x10_1 ≥ a3
        · rw [if_pos c8] at H
          have c8b0 : decide (a3 ≤ x10_1) = true := decide_eq_true c8
          clear c8
          obtain rfl := Option.some.inj H
          go_wp2_with (first | ((with_reducible refine gate_callee (f := 33) rfl ?_); refine goesL_ (some 22) rfl rfl Try.func33 (by kernel_rfl) rfl #[.slice A0 l0.length c0, .int .i64 a1, .int .i64 x10_1, .int .i64 a2] rfl (by (try simp only [List.map_toArray, List.map_cons, List.map_nil]); first | done | rfl | (simp only [List.length_drop, List.length_take]; rfl)) ?_; (with_reducible refine (undercroftref08_free.calls k1 _ _ l0 a1 x10_1 a2 true _ ?side1 ?side2 A6.out).mono ?_); (case side1 => repeat (first | exact (Kd.C_below HR0.out HB.out) | (with_reducible refine Kd.C_alloc ?_ _) | (with_reducible refine Kd.C_drewN ?_ _) | (with_reducible refine Kd.C_drew ?_))); (case side2 => exact HC0.out); rintro e w9 ⟨rfl, hb⟩; refine ⟨_, rfl, ?_⟩; have n0_ := Aside0.mk (below_step (by repeat (first | (with_reducible first | exact HB.out | apply below_alloc | apply pw_below_drewN | apply below_drew1) | exact HB.out)) hb); clear HB; have HB := n0_; clear n0_; (try clear hb); (try clear hb2); (try clear hk); (try clear hi)))
          go_ret
          exact ⟨by first | rfl | (simp [errW_none, errW_some] <;> rfl) | (simp [*, errW_none, errW_some] <;> rfl), by repeat (first | (with_reducible first | exact HB.out | apply below_alloc | apply pw_below_drewN | apply below_drew1) | exact HB.out)⟩
        rw [if_neg c8] at H
        have c8b0 : decide (a3 ≤ x10_1) = false := decide_eq_false c8
        clear c8
        by_cases c10 : x9_1 < 0
        rotate_left
        · rw [if_neg c10] at H
          have c10b0 : decide (x9_1 < 0) = false := decide_eq_false c10
          clear c10
          by_cases c14 : 0 ≤ a2
          rotate_left
          · rw [if_neg c14] at H
            exact absurd H (by simp)
          rw [if_pos c14] at H
          have c14b0 := eq_true c14
          have c14b1 : decide (0 ≤ a2) = true := decide_eq_true c14
          clear c14
          obtain ⟨ji15, hji15⟩ : ∃ j_ : Int, (shl .i64 1 a2) = j_ := ⟨_, rfl⟩
          replace H : (undercroftref08_find.l0 k1 l0 a1 a2 a3 x9_1 (wrap64 (x10_1 + (ji15)))) = some r := by first | (rw [hji15] at H; exact H) | (simp only [hji15] at H ⊢; exact H)
          (try rw [hji15] at A6)
          have hji15_ : (IntKind.i64.wrap (1 * 2 ^ min a2.toNat 64)) = ji15 := hji15
          have hji15z : a2 ≤ 64 → (IntKind.i64.wrap (1 * 2 ^ a2.toNat)) = ji15 := shl_small hji15
          have hji15u : (IntKind.i64.wrap (2 ^ min a2.toNat 64)) = ji15 := by have h_ := hji15_; rw [Int.one_mul] at h_; exact h_
          have hji15v : a2 ≤ 64 → (IntKind.i64.wrap (2 ^ a2.toNat)) = ji15 := fun hle_ => by have h_ := hji15z hle_; rw [Int.one_mul] at h_; exact h_
          have hji15y : (wrap64 (1 * 2 ^ min a2.toNat 64)) = ji15 := (i64_w _).symm.trans hji15_
          have hji15x : a2 ≤ 64 → (wrap64 (1 * 2 ^ a2.toNat)) = ji15 := fun h_ => (i64_w _).symm.trans (hji15z h_)
          have H' := Aside0.mk H
          clear H
          go_wp2_with (first | ((with_reducible refine gate_callee (f := 33) rfl ?_); refine goesL_ (some 22) rfl rfl Try.func33 (by kernel_rfl) rfl #[.slice A0 l0.length c0, .int .i64 a1, .int .i64 x10_1, .int .i64 a2] rfl (by (try simp only [List.map_toArray, List.map_cons, List.map_nil]); first | done | rfl | (simp only [List.length_drop, List.length_take]; rfl)) ?_; (with_reducible refine (undercroftref08_free.calls k1 _ _ l0 a1 x10_1 a2 true _ ?side1 ?side2 A6.out).mono ?_); (case side1 => repeat (first | exact (Kd.C_below HR0.out HB.out) | (with_reducible refine Kd.C_alloc ?_ _) | (with_reducible refine Kd.C_drewN ?_ _) | (with_reducible refine Kd.C_drew ?_))); (case side2 => exact HC0.out); rintro e w16 ⟨rfl, hb⟩; refine ⟨_, rfl, ?_⟩; have n0_ := Aside0.mk (below_step (by repeat (first | (with_reducible first | exact HB.out | apply below_alloc | apply pw_below_drewN | apply below_drew1) | exact HB.out)) hb); clear HB; have HB := n0_; clear n0_; (try clear hb); (try clear hb2); (try clear hk); (try clear hi)))
          go_roundg k1
          case measure => have := HK1.out; omega
          case rel => exact ⟨(x9_1), (wrap64 (x10_1 + (ji15))), (by first | rfl | (simp; done) | (simp [*]; done)), (by first | rfl | (simp; done) | (simp only [← hji15] <;> (first | rfl | simp)) | (simp [*]; done)), H', ⟨by have := HK1.out; omega⟩, ⟨by repeat (first | (with_reducible first | exact HB.out | apply below_alloc | apply pw_below_drewN | apply below_drew1) | exact HB.out)⟩⟩
        rw [if_pos c10] at H
        have c10b0 : decide (x9_1 < 0) = true := decide_eq_true c10
        clear c10
        by_cases c11 : 0 ≤ a2
        rotate_left
        · rw [if_neg c11] at H
          exact absurd H (by simp)
        rw [if_pos c11] at H
        have c11b0 := eq_true c11
        have c11b1 : decide (0 ≤ a2) = true := decide_eq_true c11
        clear c11
        obtain ⟨ji12, hji12⟩ : ∃ j_ : Int, (shl .i64 1 a2) = j_ := ⟨_, rfl⟩
        replace H : (undercroftref08_find.l0 k1 l0 a1 a2 a3 x10_1 (wrap64 (x10_1 + (ji12)))) = some r := by first | (rw [hji12] at H; exact H) | (simp only [hji12] at H ⊢; exact H)
        (try rw [hji12] at A6)
        have hji12_ : (IntKind.i64.wrap (1 * 2 ^ min a2.toNat 64)) = ji12 := hji12
        have hji12z : a2 ≤ 64 → (IntKind.i64.wrap (1 * 2 ^ a2.toNat)) = ji12 := shl_small hji12
        have hji12u : (IntKind.i64.wrap (2 ^ min a2.toNat 64)) = ji12 := by have h_ := hji12_; rw [Int.one_mul] at h_; exact h_
        have hji12v : a2 ≤ 64 → (IntKind.i64.wrap (2 ^ a2.toNat)) = ji12 := fun hle_ => by have h_ := hji12z hle_; rw [Int.one_mul] at h_; exact h_
        have hji12y : (wrap64 (1 * 2 ^ min a2.toNat 64)) = ji12 := (i64_w _).symm.trans hji12_
        have hji12x : a2 ≤ 64 → (wrap64 (1 * 2 ^ a2.toNat)) = ji12 := fun h_ => (i64_w _).symm.trans (hji12z h_)
        have H' := Aside0.mk H
        clear H
        go_wp2_with (first | ((with_reducible refine gate_callee (f := 33) rfl ?_); refine goesL_ (some 22) rfl rfl Try.func33 (by kernel_rfl) rfl #[.slice A0 l0.length c0, .int .i64 a1, .int .i64 x10_1, .int .i64 a2] rfl (by (try simp only [List.map_toArray, List.map_cons, List.map_nil]); first | done | rfl | (simp only [List.length_drop, List.length_take]; rfl)) ?_; (with_reducible refine (undercroftref08_free.calls k1 _ _ l0 a1 x10_1 a2 true _ ?side1 ?side2 A6.out).mono ?_); (case side1 => repeat (first | exact (Kd.C_below HR0.out HB.out) | (with_reducible refine Kd.C_alloc ?_ _) | (with_reducible refine Kd.C_drewN ?_ _) | (with_reducible refine Kd.C_drew ?_))); (case side2 => exact HC0.out); rintro e w13 ⟨rfl, hb⟩; refine ⟨_, rfl, ?_⟩; have n0_ := Aside0.mk (below_step (by repeat (first | (with_reducible first | exact HB.out | apply below_alloc | apply pw_below_drewN | apply below_drew1) | exact HB.out)) hb); clear HB; have HB := n0_; clear n0_; (try clear hb); (try clear hb2); (try clear hk); (try clear hi)))
        go_roundg k1
        case measure => have := HK1.out; omega
        case rel => exact ⟨(x10_1), (wrap64 (x10_1 + (ji12))), (by first | rfl | (simp; done) | (simp [*]; done)), (by first | rfl | (simp; done) | (simp only [← hji12] <;> (first | rfl | simp)) | (simp [*]; done)), H', ⟨by have := HK1.out; omega⟩, ⟨by repeat (first | (with_reducible first | exact HB.out | apply below_alloc | apply pw_below_drewN | apply below_drew1) | exact HB.out)⟩⟩
      · rw [if_neg c5] at H
        have c5b0 : decide (x10_1 < a1) = false := decide_eq_false c5
        clear c5
        obtain rfl := Option.some.inj H
        go_wp2
        go_ret
        exact ⟨by first | rfl | (simp [errW_none, errW_some] <;> rfl) | (simp [*, errW_none, errW_some] <;> rfl), by repeat (first | (with_reducible first | exact HB.out | apply below_alloc | apply pw_below_drewN | apply below_drew1) | exact HB.out)⟩

end Go.Proofs.Ytlhpejdbmbpmhaa.U
