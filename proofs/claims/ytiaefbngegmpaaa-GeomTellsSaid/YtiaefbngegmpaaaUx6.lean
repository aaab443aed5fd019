/- Written by uprint.py (ours) for this seat: functions of the translation as Lean functions, and what their calls do. Not trusted: Lean checks it. -/
import Derived.Test.YtiaefbngegmpaaaUx0
import Derived.Test.YtiaefbngegmpaaaUx2
namespace Go.Proofs.Ytiaefbngegmpaaa.U
open Go.RowKit Go.Proofs.YtiaefbngegmpaaaW.PrintWords Go.Proofs.YtiaefbngegmpaaaW.PrintLast Go.Proofs.YtiaefbngegmpaaaW.PrintMore
attribute [local go_sem] max2_int min2_int max_two min_two max_three min_three max_four min_four   -- for this text's walks alone
set_option linter.unusedVariables false
set_option linter.unusedSimpArgs false

/-! ### geom_Where: function 15 (given) -/
theorem geom_is_true (a0_0 a0_1 a0_2 a0_3 a0_4 a0_5 a0_6 a0_7 : Int) (h : geom_is.f a0_0 a0_1 a0_2 a0_3 a0_4 a0_5 a0_6 a0_7 = some true) : 128 ≤ a0_0 ∧ a0_0 ≤ 1024 ∧ a0_1 = a0_0 / 4 ∧ a0_2 = 1 ∧ a0_3 = 2 ∧ a0_4 = 3 ∧ a0_5 = 3 + (a0_0 / 4 + 2 - 1) / 2 ∧ a0_6 = 32 + a0_0 / 32 ∧ a0_7 = 3 + (a0_0 / 4 + 2 - 1) / 2 + (32 + a0_0 / 32) := by
  unfold geom_is.f geom_Layout.f at h
  by_cases hc : 128 ≤ a0_0 ∧ a0_0 ≤ 1024
  · rw [if_pos hc, Option.bind_some, if_pos rfl] at h
    simp only [Option.some.injEq, Bool.and_eq_true, beq_iff_eq] at h
    exact ⟨hc.1, hc.2, h.2.1, h.2.2.1, h.2.2.2.1, h.2.2.2.2.1, h.2.2.2.2.2.1, h.2.2.2.2.2.2.1, h.2.2.2.2.2.2.2⟩
  · rw [if_neg hc, Option.bind_some, if_neg (by decide)] at h
    simp at h
/-- What a block is, of a geometry. -/
def whereOf (lg dt block : Int) : Int := if block < 3 then block + 1 else if block < lg then 4 else if block < dt then 5 else 6
def geom_Where.f (a0_0 a0_1 a0_2 a0_3 a0_4 a0_5 a0_6 a0_7 a1 : Int) : Option Int :=
  (geom_is.f a0_0 a0_1 a0_2 a0_3 a0_4 a0_5 a0_6 a0_7).bind fun b => if b = true ∧ 0 ≤ a1 ∧ a1 < a0_0 then some (whereOf a0_5 a0_7 a1) else some 0
def lower (lg dt B : Int) : Nat → Int
  | 0 => 0
  | 1 => 0
  | 2 => 1
  | 3 => 2
  | 4 => 3
  | 5 => lg
  | 6 => dt
  | _ => B
set_option maxHeartbeats 2000000 in
set_option maxRecDepth 100000 in
theorem geom_Where_no (a0_0 a0_1 a0_2 a0_3 a0_4 a0_5 a0_6 a0_7 a1 : Int) (b : Bool) (w : World) (hb : geom_is.f a0_0 a0_1 a0_2 a0_3 a0_4 a0_5 a0_6 a0_7 = some b) (hn : ¬ (b = true ∧ 0 ≤ a1 ∧ a1 < a0_0)) :
    Calls Try.prog 15 #[.agg #[.int .i64 a0_0, .int .i64 a0_1, .int .i64 a0_2, .int .i64 a0_3, .int .i64 a0_4, .int .i64 a0_5, .int .i64 a0_6, .int .i64 a0_7], .int .i64 a1] w fun e w' => e = .returned (.int .i64 0) ∧ Below w.heap.size w w' := by
  have hu := Try.underlying24
  have HI := Aside0.mk hb
  clear hb
  cases b with
  | false =>
    clear hn
    go_enter Try.func15, Try.ntmps15
    go_wp2_with fail
    refine (geom_is.calls a0_0 a0_1 a0_2 a0_3 a0_4 a0_5 a0_6 a0_7 false _ HI.out).mono ?_
    rintro e w1 ⟨rfl, hbe⟩
    have HB := Aside0.mk (((Below.refl w.heap.size w).alloc (Nat.le_refl _) (.cells #[.int .i64 a0_0, .int .i64 a0_1, .int .i64 a0_2, .int .i64 a0_3, .int .i64 a0_4, .int .i64 a0_5, .int .i64 a0_6, .int .i64 a0_7] 24 (0, 0))).trans (hbe.mono (by simp)))
    clear hbe
    go_wp2
    go_ret
    exact ⟨rfl, HB.out⟩
  | true =>
    have hn' : ¬ (0 ≤ a1 ∧ a1 < a0_0) := fun h => hn ⟨rfl, h⟩
    have hd : (decide (a1 < 0) = true) ∨ (decide (a1 < 0) = false ∧ decide (a0_0 ≤ a1) = true) := by
      by_cases h0 : a1 < 0
      · exact .inl (decide_eq_true h0)
      · exact .inr ⟨decide_eq_false h0, decide_eq_true (by omega)⟩
    clear hn hn'
    rcases hd with hd1 | ⟨hd1, hd2⟩
    all_goals
      go_enter Try.func15, Try.ntmps15
      go_wp2_with fail
      refine (geom_is.calls a0_0 a0_1 a0_2 a0_3 a0_4 a0_5 a0_6 a0_7 true _ HI.out).mono ?_
      rintro e w1 ⟨rfl, hbe⟩
      have HB := Aside0.mk (((Below.refl w.heap.size w).alloc (Nat.le_refl _) (.cells #[.int .i64 a0_0, .int .i64 a0_1, .int .i64 a0_2, .int .i64 a0_3, .int .i64 a0_4, .int .i64 a0_5, .int .i64 a0_6, .int .i64 a0_7] 24 (0, 0))).trans (hbe.mono (by simp)))
      have hblk := (X.Blk.new w #[.int .i64 a0_0, .int .i64 a0_1, .int .i64 a0_2, .int .i64 a0_3, .int .i64 a0_4, .int .i64 a0_5, .int .i64 a0_6, .int .i64 a0_7] 24).below hbe (by simp)
      have c0 := hblk.cell 0 _ rfl
      clear hbe hblk
      go_wp2
      go_ret
      exact ⟨rfl, HB.out⟩

theorem where_index (lg dt : Int) : ∀ W : World, (Instr.index 36 (.agg #[.int .i64 (-1), .int .i64 0, .int .i64 1, .int .i64 2, .int .i64 3, .int .i64 lg, .int .i64 dt]) (.int .i64 0)).run Try.prog W = .ok (.int .i64 (-1)) W ∧ (Instr.index 36 (.agg #[.int .i64 (-1), .int .i64 0, .int .i64 1, .int .i64 2, .int .i64 3, .int .i64 lg, .int .i64 dt]) (.int .i64 1)).run Try.prog W = .ok (.int .i64 0) W ∧ (Instr.index 36 (.agg #[.int .i64 (-1), .int .i64 0, .int .i64 1, .int .i64 2, .int .i64 3, .int .i64 lg, .int .i64 dt]) (.int .i64 2)).run Try.prog W = .ok (.int .i64 1) W ∧ (Instr.index 36 (.agg #[.int .i64 (-1), .int .i64 0, .int .i64 1, .int .i64 2, .int .i64 3, .int .i64 lg, .int .i64 dt]) (.int .i64 3)).run Try.prog W = .ok (.int .i64 2) W ∧ (Instr.index 36 (.agg #[.int .i64 (-1), .int .i64 0, .int .i64 1, .int .i64 2, .int .i64 3, .int .i64 lg, .int .i64 dt]) (.int .i64 4)).run Try.prog W = .ok (.int .i64 3) W ∧ (Instr.index 36 (.agg #[.int .i64 (-1), .int .i64 0, .int .i64 1, .int .i64 2, .int .i64 3, .int .i64 lg, .int .i64 dt]) (.int .i64 5)).run Try.prog W = .ok (.int .i64 lg) W ∧ (Instr.index 36 (.agg #[.int .i64 (-1), .int .i64 0, .int .i64 1, .int .i64 2, .int .i64 3, .int .i64 lg, .int .i64 dt]) (.int .i64 6)).run Try.prog W = .ok (.int .i64 dt) W :=
  fun W => ⟨by kernel_rfl, by kernel_rfl, by kernel_rfl, by kernel_rfl, by kernel_rfl, by kernel_rfl, by kernel_rfl⟩
set_option maxHeartbeats 2000000 in
set_option maxRecDepth 100000 in
theorem geom_Where_yes (B lg ll dt a1 : Int) (w : World) (hb : geom_is.f B (B / 4) 1 2 3 lg ll dt = some true) (h0 : 0 ≤ a1) (h1 : a1 < B) (g1 : B ≤ 1024) (g2 : 3 < lg) (g3 : lg < dt) (g4 : dt < B) :
    Calls Try.prog 15 #[.agg #[.int .i64 B, .int .i64 (B / 4), .int .i64 1, .int .i64 2, .int .i64 3, .int .i64 lg, .int .i64 ll, .int .i64 dt], .int .i64 a1] w fun e w' => e = .returned (.int .i64 (whereOf lg dt a1)) ∧ Below w.heap.size w w' := by
  have hu := Try.underlying24
  have HI := Aside0.mk hb
  have hd1 : decide (a1 < 0) = false := decide_eq_false (by omega)
  have hd2 : decide (B ≤ a1) = false := decide_eq_false (by omega)
  clear hb
  go_enter Try.func15, Try.ntmps15
  go_wp2_with fail
  refine (geom_is.calls B (B / 4) 1 2 3 lg ll dt true _ HI.out).mono ?_
  rintro e w1 ⟨rfl, hbe⟩
  have HB := Aside0.mk (((Below.refl w.heap.size w).alloc (Nat.le_refl _) (.cells #[.int .i64 B, .int .i64 (B / 4), .int .i64 1, .int .i64 2, .int .i64 3, .int .i64 lg, .int .i64 ll, .int .i64 dt] 24 (0, 0))).trans (hbe.mono (by simp)))
  have hblk := (X.Blk.new w #[.int .i64 B, .int .i64 (B / 4), .int .i64 1, .int .i64 2, .int .i64 3, .int .i64 lg, .int .i64 ll, .int .i64 dt] 24).below hbe (by simp)
  have c0 := hblk.cell 0 _ rfl
  have c2 := hblk.cell 2 _ rfl
  have c3 := hblk.cell 3 _ rfl
  have c4 := hblk.cell 4 _ rfl
  have c5 := hblk.cell 5 _ rfl
  have c7 := hblk.cell 7 _ rfl
  clear hbe hblk
  have HX := Aside0.mk (where_index lg dt)
  go_wp2_with fail
  go_loopg [32] 7 (fun kq v32 w' => ∃ k : Nat, v32 = .int .i64 (k : Int) ∧ Aside0 (kq + k = 7) ∧ Aside0 (lower lg dt B k ≤ a1) ∧ w' = w1)
  case atStart => exact ⟨0, rfl, ⟨rfl⟩, ⟨h0⟩, rfl⟩
  case round =>
    obtain ⟨k, rfl, HK, HL, rfl⟩ := hrel
    have hk : k ≤ 7 := by have := HK.out; omega
    rcases (show k = 0 ∨ k = 1 ∨ k = 2 ∨ k = 3 ∨ k = 4 ∨ k = 5 ∨ k = 6 ∨ k = 7 by omega) with rfl | rfl | rfl | rfl | rfl | rfl | rfl | rfl
    · have hx := fun W => (HX.out W).1
      go_wp2
      cases gk with
      | zero => exact absurd HK.out (by omega)
      | succ k1 =>
      go_roundg k1
      case measure => omega
      case rel => exact ⟨1, by go_num, ⟨by have := HK.out; omega⟩, ⟨h0⟩, rfl⟩
    · have hx := fun W => (HX.out W).2.1
      have hl : 0 ≤ a1 := HL.out
      by_cases hlt : a1 < 1
      · have hv : whereOf lg dt a1 = 1 := by unfold whereOf; rw [if_pos (by omega)]; omega
        have HV := Aside0.mk hv
        clear hv
        go_wp2
        go_ret
        exact ⟨by rw [HV.out]; rfl, HB.out⟩
      · go_wp2
        cases gk with
        | zero => exact absurd HK.out (by omega)
        | succ k1 =>
        go_roundg k1
        case measure => omega
        case rel => exact ⟨2, by go_num, ⟨by have := HK.out; omega⟩, ⟨by show 1 ≤ a1; omega⟩, rfl⟩
    · have hx := fun W => (HX.out W).2.2.1
      have hl : 1 ≤ a1 := HL.out
      by_cases hlt : a1 < 2
      · have hv : whereOf lg dt a1 = 2 := by unfold whereOf; rw [if_pos (by omega)]; omega
        have HV := Aside0.mk hv
        clear hv
        go_wp2
        go_ret
        exact ⟨by rw [HV.out]; rfl, HB.out⟩
      · go_wp2
        cases gk with
        | zero => exact absurd HK.out (by omega)
        | succ k1 =>
        go_roundg k1
        case measure => omega
        case rel => exact ⟨3, by go_num, ⟨by have := HK.out; omega⟩, ⟨by show 2 ≤ a1; omega⟩, rfl⟩
    · have hx := fun W => (HX.out W).2.2.2.1
      have hl : 2 ≤ a1 := HL.out
      by_cases hlt : a1 < 3
      · have hv : whereOf lg dt a1 = 3 := by unfold whereOf; rw [if_pos (by omega)]; omega
        have HV := Aside0.mk hv
        clear hv
        go_wp2
        go_ret
        exact ⟨by rw [HV.out]; rfl, HB.out⟩
      · go_wp2
        cases gk with
        | zero => exact absurd HK.out (by omega)
        | succ k1 =>
        go_roundg k1
        case measure => omega
        case rel => exact ⟨4, by go_num, ⟨by have := HK.out; omega⟩, ⟨by show 3 ≤ a1; omega⟩, rfl⟩
    · have hx := fun W => (HX.out W).2.2.2.2.1
      have hl : 3 ≤ a1 := HL.out
      by_cases hlt : a1 < lg
      · have hv : whereOf lg dt a1 = 4 := by unfold whereOf; rw [if_neg (by omega), if_pos (by omega)]
        have HV := Aside0.mk hv
        clear hv
        go_wp2
        go_ret
        exact ⟨by rw [HV.out]; rfl, HB.out⟩
      · go_wp2
        cases gk with
        | zero => exact absurd HK.out (by omega)
        | succ k1 =>
        go_roundg k1
        case measure => omega
        case rel => exact ⟨5, by go_num, ⟨by have := HK.out; omega⟩, ⟨by show lg ≤ a1; omega⟩, rfl⟩
    · have hx := fun W => (HX.out W).2.2.2.2.2.1
      have hl : lg ≤ a1 := HL.out
      by_cases hlt : a1 < dt
      · have hv : whereOf lg dt a1 = 5 := by unfold whereOf; rw [if_neg (by omega), if_neg (by omega), if_pos (by omega)]
        have HV := Aside0.mk hv
        clear hv
        go_wp2
        go_ret
        exact ⟨by rw [HV.out]; rfl, HB.out⟩
      · go_wp2
        cases gk with
        | zero => exact absurd HK.out (by omega)
        | succ k1 =>
        go_roundg k1
        case measure => omega
        case rel => exact ⟨6, by go_num, ⟨by have := HK.out; omega⟩, ⟨by show dt ≤ a1; omega⟩, rfl⟩
    · have hx := fun W => (HX.out W).2.2.2.2.2.2
      have hl : dt ≤ a1 := HL.out
      by_cases hlt : a1 < B
      · have hv : whereOf lg dt a1 = 6 := by unfold whereOf; rw [if_neg (by omega), if_neg (by omega), if_neg (by omega)]
        have HV := Aside0.mk hv
        clear hv
        go_wp2
        go_ret
        exact ⟨by rw [HV.out]; rfl, HB.out⟩
      · omega
    · have hl : B ≤ a1 := HL.out
      omega
theorem geom_Where.calls (a0_0 a0_1 a0_2 a0_3 a0_4 a0_5 a0_6 a0_7 a1 : Int) (r : Int) (w : World) (h : geom_Where.f a0_0 a0_1 a0_2 a0_3 a0_4 a0_5 a0_6 a0_7 a1 = some r) :
    Calls Try.prog 15 #[.agg #[.int .i64 a0_0, .int .i64 a0_1, .int .i64 a0_2, .int .i64 a0_3, .int .i64 a0_4, .int .i64 a0_5, .int .i64 a0_6, .int .i64 a0_7], .int .i64 a1] w fun e w' => e = .returned (.int .i64 r) ∧ Below w.heap.size w w' := by
  unfold geom_Where.f at h
  obtain ⟨b, hb, h⟩ := Option.bind_eq_some_iff.1 h
  by_cases hc : b = true ∧ 0 ≤ a1 ∧ a1 < a0_0
  · rw [if_pos hc] at h
    obtain rfl := Option.some.inj h
    obtain ⟨rfl, h0, h1⟩ := hc
    obtain ⟨g0, g1, e1, e2, e3, e4, e5, e6, e7⟩ := geom_is_true _ _ _ _ _ _ _ _ hb
    have q1 : 3 < a0_5 := by omega
    have q2 : a0_5 < a0_7 := by omega
    have q3 : a0_7 < a0_0 := by omega
    subst e1 e2 e3 e4
    exact geom_Where_yes _ _ _ _ a1 w hb h0 h1 g1 q1 q2 q3
  · rw [if_neg hc] at h
    obtain rfl := Option.some.inj h
    exact geom_Where_no _ _ _ _ _ _ _ _ a1 b w hb hc

end Go.Proofs.Ytiaefbngegmpaaa.U
