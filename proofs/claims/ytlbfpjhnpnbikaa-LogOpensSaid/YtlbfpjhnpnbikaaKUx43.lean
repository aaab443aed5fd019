/- Ux43: what this claim uses. Laid by slim.py (ours). -/
import Derived.Test.YtlbfpjhnpnbikaaKUx0
namespace Go.Proofs.Ytlbfpjhnpnbikaa.U
open Go.RowKit Go.Proofs.YtlbfpjhnpnbikaaW.PrintWords Go.Proofs.YtlbfpjhnpnbikaaW.PrintLast Go.Proofs.YtlbfpjhnpnbikaaW.PrintMore
attribute [local go_sem] max2_int min2_int max_two min_two max_three min_three max_four min_four
set_option linter.unusedVariables false
set_option linter.unusedSimpArgs false
mutual
def undercroftref04_Revoked.l0 : Nat → List (S60) → Int → Int → Option (Bool)
  | 0, _, _, _ => none
  | k + 1, x0, x2, x7 => if x7 < (x0.length : Int) then (undercroftref04_Revoked.l1 k x0 x2 x7 0) else (some false)
def undercroftref04_Revoked.l1 : Nat → List (S60) → Int → Int → Int → Option (Bool)
  | 0, _, _, _, _ => none
  | k + 1, x0, x2, x7, x8 => if 0 ≤ x7 then (if x7 < (x0.length : Int) then (if x8 < (((rd_T60 x0 x7).f2).length : Int) then (if 0 ≤ x8 then (if (rd ((rd_T60 x0 x7).f2) x8) = x2 then (some true) else (undercroftref04_Revoked.l1 k x0 x2 x7 (wrap64 (x8 + 1)))) else (none)) else (undercroftref04_Revoked.l0 k x0 x2 (wrap64 (x7 + 1)))) else (none)) else (none)
end
def undercroftref04_Revoked.f (k : Nat) (l0 : List (S60)) (a1 : Int) (a2 : Int) : Option (Bool) := undercroftref04_Revoked.l0 k l0 a2 (wrap64 (a1 + 1))
theorem undercroftref04_Revoked.mono_l : ∀ k, (∀ y0 y1 y2, LeO (undercroftref04_Revoked.l0 k y0 y1 y2) (undercroftref04_Revoked.l0 (k + 1) y0 y1 y2)) ∧ (∀ y0 y1 y2 y3, LeO (undercroftref04_Revoked.l1 k y0 y1 y2 y3) (undercroftref04_Revoked.l1 (k + 1) y0 y1 y2 y3))
  | 0 => ⟨fun _ _ _ r h => by simp [undercroftref04_Revoked.l0] at h, fun _ _ _ _ r h => by simp [undercroftref04_Revoked.l1] at h⟩
  | k + 1 => by
    obtain ⟨ih0, ih1⟩ := undercroftref04_Revoked.mono_l k
    refine ⟨?_, ?_⟩
    · intro y0 y1 y2
      unfold undercroftref04_Revoked.l0
      repeat' first
      | (with_reducible exact ih0 _ _ _)
      | (with_reducible exact ih1 _ _ _ _)
      | (with_reducible exact LeO.refl _)
      | (with_reducible exact LeO.none _)
      | (with_reducible refine LeO.ite ?_ ?_)
      | (with_reducible refine LeO.bind ?_ (fun _ => ?_))
      | exact ih0 _ _ _
      | exact ih1 _ _ _ _
      | exact LeO.none _
      | refine LeO.ite ?_ ?_
      | refine LeO.bind ?_ (fun _ => ?_)
    · intro y0 y1 y2 y3
      unfold undercroftref04_Revoked.l1
      repeat' first
      | (with_reducible exact ih0 _ _ _)
      | (with_reducible exact ih1 _ _ _ _)
      | (with_reducible exact LeO.refl _)
      | (with_reducible exact LeO.none _)
      | (with_reducible refine LeO.ite ?_ ?_)
      | (with_reducible refine LeO.bind ?_ (fun _ => ?_))
      | exact ih0 _ _ _
      | exact ih1 _ _ _ _
      | exact LeO.none _
      | refine LeO.ite ?_ ?_
      | refine LeO.bind ?_ (fun _ => ?_)
theorem undercroftref04_Revoked.mono : ∀ a0 a1 a2 k, LeO (undercroftref04_Revoked.f k a0 a1 a2) (undercroftref04_Revoked.f (k + 1) a0 a1 a2) := by
  intro a0 a1 a2 k
  obtain ⟨ih0, ih1⟩ := undercroftref04_Revoked.mono_l k
  unfold undercroftref04_Revoked.f
  repeat' first
      | (with_reducible exact ih0 _ _ _)
      | (with_reducible exact ih1 _ _ _ _)
      | (with_reducible exact LeO.refl _)
      | (with_reducible exact LeO.none _)
      | (with_reducible refine LeO.ite ?_ ?_)
      | (with_reducible refine LeO.bind ?_ (fun _ => ?_))
      | exact ih0 _ _ _
      | exact ih1 _ _ _ _
      | exact LeO.none _
      | refine LeO.ite ?_ ?_
      | refine LeO.bind ?_ (fun _ => ?_)
set_option maxHeartbeats 8000000 in
set_option maxRecDepth 100000 in
theorem undercroftref04_Revoked.calls (k : Nat) (A0 : Option Addr) (c0 : Nat) (l0 : List (S60)) (a1 : Int) (a2 : Int) (r : Bool) (w : World) (hr0 : Kd.C k60 w A0 l0.length l0) (hc0 : l0.length ≤ c0) (h : undercroftref04_Revoked.f k l0 a1 a2 = some r) :
    Calls Try.prog 27 #[.slice A0 l0.length c0, .int .i64 a1, .int .i64 a2] w fun e w' => e = .returned (.bool r) ∧ Drawn0 w w' := by
  have HR0 := Aside0.mk hr0
  have HC0 := Aside0.mk hc0
  clear hr0 hc0
  have H : (undercroftref04_Revoked.l0 k l0 a2 (wrap64 (a1 + 1))) = some r := h
  clear h
  have H' := Aside0.mk H
  clear H
  go_enter Try.func27, Try.ntmps27
  go_wp2
  go_loopg [7] k (fun kq v7 w' => ∃ (x7_1 : Int), v7 = .int .i64 x7_1 ∧ Aside0 (undercroftref04_Revoked.l0 kq l0 a2 x7_1 = some r) ∧ Aside0 (kq ≤ k) ∧ Drawn0 w w')
  case atStart => exact ⟨(wrap64 (a1 + 1)), (by first | rfl | (simp; done) | (simp [*]; done)), H', ⟨Nat.le_refl _⟩, by repeat (first | exact Drawn0.refl _ | apply Drawn0.step)⟩
  case round =>
    clear H'
    try clear c2
    try clear p2
    obtain ⟨x7_1, rfl, HA, HK1, ⟨m1, rfl⟩⟩ := hrel
    cases gk with
    | zero => exact absurd HA.out (by simp [undercroftref04_Revoked.l0])
    | succ k1 =>
      have H := HA.out
      clear HA
      simp only [undercroftref04_Revoked.l0] at H
      by_cases c4 : x7_1 < (l0.length : Int)
      · rw [if_pos c4] at H
        have c4b0 : decide (x7_1 < (l0.length : Int)) = true := decide_eq_true c4
        clear c4
        have H' := Aside0.mk H
        clear H
        go_wp2
        go_loopg [8] k1 (fun kq v8 w' => ∃ (x8_2 : Int), v8 = .int .i64 x8_2 ∧ Aside0 (undercroftref04_Revoked.l1 kq l0 a2 x7_1 x8_2 = some r) ∧ Aside0 (kq ≤ k1) ∧ Drawn0 w w')
        case atStart => exact ⟨(0), (by first | rfl | (simp; done) | (simp [*]; done)), H', ⟨Nat.le_refl _⟩, by repeat (first | exact Drawn0.refl _ | apply Drawn0.step)⟩
        case round =>
          clear H'
          try clear c2
          try clear p2
          try clear c4
          try clear c4b0
          try clear p2
          obtain ⟨x8_2, rfl, HA, HK2, ⟨m2, rfl⟩⟩ := hrel
          cases gk with
          | zero => exact absurd HA.out (by simp [undercroftref04_Revoked.l1])
          | succ k2 =>
            have H := HA.out
            clear HA
            simp only [undercroftref04_Revoked.l1] at H
            by_cases c5 : 0 ≤ x7_1
            rotate_left
            · rw [if_neg c5] at H
              exact absurd H (by simp)
            rw [if_pos c5] at H
            have c5b0 : decide (0 ≤ x7_1) = true := decide_eq_true c5
            clear c5
            by_cases c6 : x7_1 < (l0.length : Int)
            rotate_left
            · rw [if_neg c6] at H
              exact absurd H (by simp)
            rw [if_pos c6] at H
            have c6b0 : decide (x7_1 < (l0.length : Int)) = true := decide_eq_true c6
            clear c6
            by_cases c7 : x8_2 < (((rd_T60 l0 x7_1).f2).length : Int)
            rotate_left
            · rw [if_neg c7] at H
              have c7b0 : decide (x8_2 < (((rd_T60 l0 x7_1).f2).length : Int)) = false := decide_eq_false c7
              clear c7
              have H' := Aside0.mk H
              clear H
              have p168 : 0 ≤ (x7_1 : Int) := of_decide_eq_true (by first | (with_reducible assumption) | assumption)
              have q168 : x7_1 < (l0.length : Int) := of_decide_eq_true (by first | (with_reducible assumption) | assumption)
              obtain ⟨ad168, A168_1, c168_1, A168_2, c168_2, e168, hx168_0, hx168_1, hx168_2, hl168_1, hi168_1, hl168_2, hi168_2⟩ := at_T60 HR0.out x7_1 p168 q168
              cases e168
              have HR168_1 := Aside0.mk hi168_1
              have HC168_1 := Aside0.mk hl168_1
              clear hi168_1 hl168_1
              have HR168_2 := Aside0.mk hi168_2
              have HC168_2 := Aside0.mk hl168_2
              clear hi168_2 hl168_2
              replace p168 := eq_true p168
              replace q168 := eq_true q168
              go_wp2
              go_roundg k2
              case measure => have := HK1.out; have := HK2.out; omega
              case rel => exact ⟨(wrap64 (x7_1 + 1)), (by first | rfl | (simp; done) | (simp [*]; done)), H', ⟨by have := HK1.out; have := HK2.out; omega⟩, by repeat (first | exact Drawn0.refl _ | apply Drawn0.step)⟩
            rw [if_pos c7] at H
            have c7b0 : decide (x8_2 < (((rd_T60 l0 x7_1).f2).length : Int)) = true := decide_eq_true c7
            clear c7
            by_cases c8 : 0 ≤ x8_2
            rotate_left
            · rw [if_neg c8] at H
              exact absurd H (by simp)
            rw [if_pos c8] at H
            have c8b0 : decide (0 ≤ x8_2) = true := decide_eq_true c8
            clear c8
            by_cases c9 : (rd ((rd_T60 l0 x7_1).f2) x8_2) = a2
            · rw [if_pos c9] at H
              have c9b0 : ((rd ((rd_T60 l0 x7_1).f2) x8_2) == a2) = true := beq_iff_eq.mpr c9
              have c9b1 : ((rd ((rd_T60 l0 x7_1).f2) x8_2) != a2) = false := bne_eq_false_iff_eq.mpr c9
              clear c9
              obtain rfl := Option.some.inj H
              have p168 : 0 ≤ (x7_1 : Int) := of_decide_eq_true (by first | (with_reducible assumption) | assumption)
              have q168 : x7_1 < (l0.length : Int) := of_decide_eq_true (by first | (with_reducible assumption) | assumption)
              obtain ⟨ad168, A168_1, c168_1, A168_2, c168_2, e168, hx168_0, hx168_1, hx168_2, hl168_1, hi168_1, hl168_2, hi168_2⟩ := at_T60 HR0.out x7_1 p168 q168
              cases e168
              have HR168_1 := Aside0.mk hi168_1
              have HC168_1 := Aside0.mk hl168_1
              clear hi168_1 hl168_1
              have HR168_2 := Aside0.mk hi168_2
              have HC168_2 := Aside0.mk hl168_2
              clear hi168_2 hl168_2
              replace p168 := eq_true p168
              replace q168 := eq_true q168
              have p169 : 0 ≤ (x7_1 : Int) := of_decide_eq_true (by first | (with_reducible assumption) | assumption)
              have q169 : x7_1 < (l0.length : Int) := of_decide_eq_true (by first | (with_reducible assumption) | assumption)
              obtain ⟨ad169, A169_1, c169_1, A169_2, c169_2, e169, hx169_0, hx169_1, hx169_2, hl169_1, hi169_1, hl169_2, hi169_2⟩ := at_T60 HR0.out x7_1 p169 q169
              obtain rfl : ad168 = ad169 := (by injection e169)
              have HR169_1 := Aside0.mk hi169_1
              have HC169_1 := Aside0.mk hl169_1
              clear hi169_1 hl169_1
              have HR169_2 := Aside0.mk hi169_2
              have HC169_2 := Aside0.mk hl169_2
              clear hi169_2 hl169_2
              replace p169 := eq_true p169
              replace q169 := eq_true q169
              have ea_ := Option.some.inj (hx168_1.symm.trans hx169_1)
              injection ea_ with ea_ en_ ec_
              subst ea_
              subst ec_
              clear en_
              have ea_ := Option.some.inj (hx168_2.symm.trans hx169_2)
              injection ea_ with ea_ en_ ec_
              subst ea_
              subst ec_
              clear en_
              have p170 : 0 ≤ (x8_2 : Int) := of_decide_eq_true (by first | (with_reducible assumption) | assumption)
              have q170 : x8_2 < (((rd_T60 l0 x7_1).f2).length : Int) := of_decide_eq_true (by first | (with_reducible assumption) | assumption)
              obtain ⟨ad170, e170, hx170_0⟩ := Kd.at_int HR169_2.out x8_2 p170 q170
              cases e170
              replace p170 := eq_true p170
              replace q170 := eq_true q170
              go_wp2
              go_ret
              exact ⟨by first | rfl | (simp; done) | (simp [*]; done), by repeat (first | exact Drawn0.refl _ | apply Drawn0.step)⟩
            rw [if_neg c9] at H
            have c9b0 : ((rd ((rd_T60 l0 x7_1).f2) x8_2) == a2) = false := beq_eq_false_iff_ne.mpr c9
            have c9b1 : ((rd ((rd_T60 l0 x7_1).f2) x8_2) != a2) = true := bne_iff_ne.mpr c9
            have H' := Aside0.mk H
            clear H
            have p168 : 0 ≤ (x7_1 : Int) := of_decide_eq_true (by first | (with_reducible assumption) | assumption)
            have q168 : x7_1 < (l0.length : Int) := of_decide_eq_true (by first | (with_reducible assumption) | assumption)
            obtain ⟨ad168, A168_1, c168_1, A168_2, c168_2, e168, hx168_0, hx168_1, hx168_2, hl168_1, hi168_1, hl168_2, hi168_2⟩ := at_T60 HR0.out x7_1 p168 q168
            cases e168
            have HR168_1 := Aside0.mk hi168_1
            have HC168_1 := Aside0.mk hl168_1
            clear hi168_1 hl168_1
            have HR168_2 := Aside0.mk hi168_2
            have HC168_2 := Aside0.mk hl168_2
            clear hi168_2 hl168_2
            replace p168 := eq_true p168
            replace q168 := eq_true q168
            have p169 : 0 ≤ (x7_1 : Int) := of_decide_eq_true (by first | (with_reducible assumption) | assumption)
            have q169 : x7_1 < (l0.length : Int) := of_decide_eq_true (by first | (with_reducible assumption) | assumption)
            obtain ⟨ad169, A169_1, c169_1, A169_2, c169_2, e169, hx169_0, hx169_1, hx169_2, hl169_1, hi169_1, hl169_2, hi169_2⟩ := at_T60 HR0.out x7_1 p169 q169
            obtain rfl : ad168 = ad169 := (by injection e169)
            have HR169_1 := Aside0.mk hi169_1
            have HC169_1 := Aside0.mk hl169_1
            clear hi169_1 hl169_1
            have HR169_2 := Aside0.mk hi169_2
            have HC169_2 := Aside0.mk hl169_2
            clear hi169_2 hl169_2
            replace p169 := eq_true p169
            replace q169 := eq_true q169
            have ea_ := Option.some.inj (hx168_1.symm.trans hx169_1)
            injection ea_ with ea_ en_ ec_
            subst ea_
            subst ec_
            clear en_
            have ea_ := Option.some.inj (hx168_2.symm.trans hx169_2)
            injection ea_ with ea_ en_ ec_
            subst ea_
            subst ec_
            clear en_
            have p170 : 0 ≤ (x8_2 : Int) := of_decide_eq_true (by first | (with_reducible assumption) | assumption)
            have q170 : x8_2 < (((rd_T60 l0 x7_1).f2).length : Int) := of_decide_eq_true (by first | (with_reducible assumption) | assumption)
            obtain ⟨ad170, e170, hx170_0⟩ := Kd.at_int HR169_2.out x8_2 p170 q170
            cases e170
            replace p170 := eq_true p170
            replace q170 := eq_true q170
            go_wp2
            go_roundg k2
            case measure => have := HK1.out; have := HK2.out; omega
            case rel => exact ⟨(wrap64 (x8_2 + 1)), (by first | rfl | (simp; done) | (simp [*]; done)), H', ⟨by have := HK1.out; have := HK2.out; omega⟩, by repeat (first | exact Drawn0.refl _ | apply Drawn0.step)⟩
      · rw [if_neg c4] at H
        have c4b0 : decide (x7_1 < (l0.length : Int)) = false := decide_eq_false c4
        clear c4
        obtain rfl := Option.some.inj H
        go_wp2
        go_ret
        exact ⟨by first | rfl | (simp; done) | (simp [*]; done), by repeat (first | exact Drawn0.refl _ | apply Drawn0.step)⟩
end Go.Proofs.Ytlbfpjhnpnbikaa.U
