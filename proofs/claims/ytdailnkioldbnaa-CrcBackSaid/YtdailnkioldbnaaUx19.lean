/- Written by uprint.py (ours) for this seat: functions of the translation as Lean functions, and what their calls do. Not trusted: Lean checks it. -/
import Derived.Test.YtdailnkioldbnaaUx0
import Derived.Test.YtdailnkioldbnaaUx5
import Derived.Test.YtdailnkioldbnaaUx6
import Derived.Test.YtdailnkioldbnaaUx7
namespace Go.Proofs.Ytdailnkioldbnaa.U
open Go.RowKit Go.Proofs.YtdailnkioldbnaaW.PrintWords Go.Proofs.YtdailnkioldbnaaW.PrintLast Go.Proofs.YtdailnkioldbnaaW.PrintMore
attribute [local go_sem] max2_int min2_int max_two min_two max_three min_three max_four min_four   -- for this text's walks alone
set_option linter.unusedVariables false
set_option linter.unusedSimpArgs false

/-! ### undercroftlaw01_CrcBack: function 8 -/
mutual
def undercroftlaw01_CrcBack.j0 : Nat → Int → Int → List Int → Int → Bool → Int → Option (Bool)
  | 0, _, _, _, _, _, _ => none
  | k + 1, x0, x1, x5, x6, x7, x8 => undercroftlaw01_CrcBack.l0 k x0 x1 x5 x6 x7 x8 0
def undercroftlaw01_CrcBack.l0 : Nat → Int → Int → List Int → Int → Bool → Int → Int → Option (Bool)
  | 0, _, _, _, _, _, _, _ => none
  | k + 1, x0, x1, x5, x6, x7, x8, x9 => if x9 < (x5.length : Int) then (if 0 ≤ x9 then (undercroftlaw01_CrcBack.l0 k x0 x1 (x5.set (x9 : Int).toNat 77) x6 x7 x8 (wrap64 (x9 + 1))) else (none)) else ((crc_Bytes.f k x0 x1).bind fun t191 => ((crc_Number.f k t191).bind fun bt194 => (if x7 = true then (if x6 = x8 then (if bt194.2 = true then (if bt194.1 = x8 then (some ((x5.length : Int) == (mn x1 8))) else (some false)) else (some false)) else (some false)) else (some false))))
end
def undercroftlaw01_CrcBack.f (k : Nat) (a0 : Int) (a1 : Int) : Option (Bool) := (undercroftlaw01_alive.f).bind fun t184 => (if t184 = true then ((crc_Bytes.f k a0 a1).bind fun t185 => ((crc_Number.f k t185).bind fun bt188 => (if a1 < 0 then (some ((t185.length : Int) == 0)) else (if a1 < 8 then (if 0 ≤ (wrap64 (8 * a1)) then (undercroftlaw01_CrcBack.j0 k a0 a1 t185 bt188.1 bt188.2 (Go.bits .and .u64 a0 (IntKind.u64.wrap ((shl .u64 1 (wrap64 (8 * a1))) - 1)))) else (none)) else (undercroftlaw01_CrcBack.j0 k a0 a1 t185 bt188.1 bt188.2 a0))))) else (some false))
theorem undercroftlaw01_CrcBack.mono_l : ∀ k, (∀ y0 y1 y2 y3 y4 y5, LeO (undercroftlaw01_CrcBack.j0 k y0 y1 y2 y3 y4 y5) (undercroftlaw01_CrcBack.j0 (k + 1) y0 y1 y2 y3 y4 y5)) ∧ (∀ y0 y1 y2 y3 y4 y5 y6, LeO (undercroftlaw01_CrcBack.l0 k y0 y1 y2 y3 y4 y5 y6) (undercroftlaw01_CrcBack.l0 (k + 1) y0 y1 y2 y3 y4 y5 y6))
  | 0 => ⟨fun _ _ _ _ _ _ r h => by simp [undercroftlaw01_CrcBack.j0] at h, fun _ _ _ _ _ _ _ r h => by simp [undercroftlaw01_CrcBack.l0] at h⟩
  | k + 1 => by
    obtain ⟨ih0, ih1⟩ := undercroftlaw01_CrcBack.mono_l k
    refine ⟨?_, ?_⟩
    · intro y0 y1 y2 y3 y4 y5
      unfold undercroftlaw01_CrcBack.j0
      repeat' first
      | (with_reducible exact ih0 _ _ _ _ _ _)
      | (with_reducible exact ih1 _ _ _ _ _ _ _)
      | (with_reducible exact crc_Bytes.mono _ _ _)
      | (with_reducible exact crc_Number.mono _ _)
      | (with_reducible exact LeO.refl _)
      | (with_reducible exact LeO.none _)
      | (with_reducible refine LeO.ite ?_ ?_)
      | (with_reducible refine LeO.bind ?_ (fun _ => ?_))
      | exact ih0 _ _ _ _ _ _
      | exact ih1 _ _ _ _ _ _ _
      | exact crc_Bytes.mono _ _ _
      | exact crc_Number.mono _ _
      | exact LeO.none _
      | refine LeO.ite ?_ ?_
      | refine LeO.bind ?_ (fun _ => ?_)
    · intro y0 y1 y2 y3 y4 y5 y6
      unfold undercroftlaw01_CrcBack.l0
      repeat' first
      | (with_reducible exact ih0 _ _ _ _ _ _)
      | (with_reducible exact ih1 _ _ _ _ _ _ _)
      | (with_reducible exact crc_Bytes.mono _ _ _)
      | (with_reducible exact crc_Number.mono _ _)
      | (with_reducible exact LeO.refl _)
      | (with_reducible exact LeO.none _)
      | (with_reducible refine LeO.ite ?_ ?_)
      | (with_reducible refine LeO.bind ?_ (fun _ => ?_))
      | exact ih0 _ _ _ _ _ _
      | exact ih1 _ _ _ _ _ _ _
      | exact crc_Bytes.mono _ _ _
      | exact crc_Number.mono _ _
      | exact LeO.none _
      | refine LeO.ite ?_ ?_
      | refine LeO.bind ?_ (fun _ => ?_)
theorem undercroftlaw01_CrcBack.mono : ∀ a0 a1 k, LeO (undercroftlaw01_CrcBack.f k a0 a1) (undercroftlaw01_CrcBack.f (k + 1) a0 a1) := by
  intro a0 a1 k
  obtain ⟨ih0, ih1⟩ := undercroftlaw01_CrcBack.mono_l k
  unfold undercroftlaw01_CrcBack.f
  repeat' first
      | (with_reducible exact ih0 _ _ _ _ _ _)
      | (with_reducible exact ih1 _ _ _ _ _ _ _)
      | (with_reducible exact crc_Bytes.mono _ _ _)
      | (with_reducible exact crc_Number.mono _ _)
      | (with_reducible exact LeO.refl _)
      | (with_reducible exact LeO.none _)
      | (with_reducible refine LeO.ite ?_ ?_)
      | (with_reducible refine LeO.bind ?_ (fun _ => ?_))
      | exact ih0 _ _ _ _ _ _
      | exact ih1 _ _ _ _ _ _ _
      | exact crc_Bytes.mono _ _ _
      | exact crc_Number.mono _ _
      | exact LeO.none _
      | refine LeO.ite ?_ ?_
      | refine LeO.bind ?_ (fun _ => ?_)
set_option maxHeartbeats 8000000 in
set_option maxRecDepth 100000 in
theorem undercroftlaw01_CrcBack.calls (k : Nat) (a0 : Int) (a1 : Int) (r : Bool) (w : World) (h : undercroftlaw01_CrcBack.f k a0 a1 = some r) :
    Calls Try.prog 8 #[.int .u64 a0, .int .i64 a1] w fun e w' => e = .returned (.bool r) ∧ Below w.heap.size w w' := by
  have HB := Aside0.mk (Below.refl w.heap.size w)
  have H : ((undercroftlaw01_alive.f).bind fun t184 => (if t184 = true then ((crc_Bytes.f k a0 a1).bind fun t185 => ((crc_Number.f k t185).bind fun bt188 => (if a1 < 0 then (some ((t185.length : Int) == 0)) else (if a1 < 8 then (if 0 ≤ (wrap64 (8 * a1)) then (undercroftlaw01_CrcBack.j0 k a0 a1 t185 bt188.1 bt188.2 (Go.bits .and .u64 a0 (IntKind.u64.wrap ((shl .u64 1 (wrap64 (8 * a1))) - 1)))) else (none)) else (undercroftlaw01_CrcBack.j0 k a0 a1 t185 bt188.1 bt188.2 a0))))) else (some false))) = some r := h
  clear h
  replace H := Option.bind_eq_some_iff.mp H
  obtain ⟨t184, A30, H⟩ := H
  replace H : (if t184 = true then ((crc_Bytes.f k a0 a1).bind fun t185 => ((crc_Number.f k t185).bind fun bt188 => (if a1 < 0 then (some ((t185.length : Int) == 0)) else (if a1 < 8 then (if 0 ≤ (wrap64 (8 * a1)) then (undercroftlaw01_CrcBack.j0 k a0 a1 t185 bt188.1 bt188.2 (Go.bits .and .u64 a0 (IntKind.u64.wrap ((shl .u64 1 (wrap64 (8 * a1))) - 1)))) else (none)) else (undercroftlaw01_CrcBack.j0 k a0 a1 t185 bt188.1 bt188.2 a0))))) else (some false)) = some r := H
  have A3 := Aside0.mk A30
  clear A30
  by_cases c4 : t184 = true
  · subst c4
    have H1 : ((crc_Bytes.f k a0 a1).bind fun t185 => ((crc_Number.f k t185).bind fun bt188 => (if a1 < 0 then (some ((t185.length : Int) == 0)) else (if a1 < 8 then (if 0 ≤ (wrap64 (8 * a1)) then (undercroftlaw01_CrcBack.j0 k a0 a1 t185 bt188.1 bt188.2 (Go.bits .and .u64 a0 (IntKind.u64.wrap ((shl .u64 1 (wrap64 (8 * a1))) - 1)))) else (none)) else (undercroftlaw01_CrcBack.j0 k a0 a1 t185 bt188.1 bt188.2 a0))))) = some r := by rw [if_pos rfl] at H; exact H
    clear H
    have H := H1
    clear H1
    replace H := Option.bind_eq_some_iff.mp H
    obtain ⟨t185, A50, H⟩ := H
    replace H : ((crc_Number.f k t185).bind fun bt188 => (if a1 < 0 then (some ((t185.length : Int) == 0)) else (if a1 < 8 then (if 0 ≤ (wrap64 (8 * a1)) then (undercroftlaw01_CrcBack.j0 k a0 a1 t185 bt188.1 bt188.2 (Go.bits .and .u64 a0 (IntKind.u64.wrap ((shl .u64 1 (wrap64 (8 * a1))) - 1)))) else (none)) else (undercroftlaw01_CrcBack.j0 k a0 a1 t185 bt188.1 bt188.2 a0)))) = some r := H
    have A5 := Aside0.mk A50
    clear A50
    replace H := Option.bind_eq_some_iff.mp H
    obtain ⟨⟨t188, t189⟩, A60, H⟩ := H
    replace H : (if a1 < 0 then (some ((t185.length : Int) == 0)) else (if a1 < 8 then (if 0 ≤ (wrap64 (8 * a1)) then (undercroftlaw01_CrcBack.j0 k a0 a1 t185 t188 t189 (Go.bits .and .u64 a0 (IntKind.u64.wrap ((shl .u64 1 (wrap64 (8 * a1))) - 1)))) else (none)) else (undercroftlaw01_CrcBack.j0 k a0 a1 t185 t188 t189 a0))) = some r := H
    have A6 := Aside0.mk A60
    clear A60
    by_cases c7 : a1 < 0
    · rw [if_pos c7] at H
      have c7b0 : decide (a1 < 0) = true := decide_eq_true c7
      clear c7
      obtain rfl := Option.some.inj H
      go_enter Try.func8, Try.ntmps8
      go_wp2_with (first | ((with_reducible refine gate_callee (f := 10) rfl ?_); refine goesL_ (some 12) rfl rfl Try.func10 (by kernel_rfl) rfl #[] rfl (by (try simp only [List.map_toArray, List.map_cons, List.map_nil]); first | done | rfl | (simp only [List.length_drop, List.length_take]; rfl)) ?_; (with_reducible refine (undercroftlaw01_alive.calls  true _ A3.out).mono ?_); rintro e w8 ⟨rfl, hb⟩; refine ⟨_, rfl, ?_⟩; have n0_ := Aside0.mk (below_step (by repeat (first | (with_reducible first | exact HB.out | apply below_alloc | apply pw_below_drewN | apply below_drew1) | exact HB.out)) hb); clear HB; have HB := n0_; clear n0_; (try clear hb); (try clear hb2); (try clear hk); (try clear hi)) | ((with_reducible refine gate_callee (f := 18) rfl ?_); refine goesL_ (some 16) rfl rfl Try.func18 (by kernel_rfl) rfl #[.int .u64 a0, .int .i64 a1] rfl (by (try simp only [List.map_toArray, List.map_cons, List.map_nil]); first | done | rfl | (simp only [List.length_drop, List.length_take]; rfl)) ?_; (with_reducible refine (crc_Bytes.calls k a0 a1 t185 _ A5.out).mono ?_); rintro e w9 ⟨v186, rfl, ho0, hb⟩; refine ⟨_, rfl, ?_⟩; have n0_ := Aside0.mk (Kd.R_lower ho0 (below_size (by repeat (first | (with_reducible first | exact HB.out | apply below_alloc | apply pw_below_drewN | apply below_drew1) | exact HB.out)))); have n1_ := Aside0.mk (below_step (by repeat (first | (with_reducible first | exact HB.out | apply below_alloc | apply pw_below_drewN | apply below_drew1) | exact HB.out)) hb); clear HB; have HO187 := n0_; have HB := n1_; clear n0_ n1_; (try clear hb); (try clear hb2); (try clear hk); (try clear hi); (try clear ho0); obtain ⟨Ao10, co10, eo10⟩ := Kd.R_slice HO187.out; subst eo10) | ((with_reducible refine gate_callee (f := 15) rfl ?_); refine goesL_ (some 19) rfl rfl Try.func15 (by kernel_rfl) rfl #[.slice Ao10 t185.length co10] rfl (by (try simp only [List.map_toArray, List.map_cons, List.map_nil]); first | done | rfl | (simp only [List.length_drop, List.length_take]; rfl)) ?_; (with_reducible refine (crc_Number.calls k _ _ t185 t188 t189 _ ?side1 ?side2 A6.out).mono ?_); (case side1 => repeat (first | exact (Kd.R_reads' HO187.out).2.2 | (with_reducible refine Kd.C_alloc ?_ _) | (with_reducible refine Kd.C_drewN ?_ _) | (with_reducible refine Kd.C_drew ?_))); (case side2 => exact (Kd.R_reads' HO187.out).2.1); rintro e w' ⟨rfl, ⟨nd, rfl⟩⟩; refine ⟨_, rfl, ?_⟩))
      go_ret
      exact ⟨by first | rfl | (simp [errW_none, errW_some] <;> rfl) | (simp [*, errW_none, errW_some] <;> rfl), by repeat (first | (with_reducible first | exact HB.out | apply below_alloc | apply pw_below_drewN | apply below_drew1) | exact HB.out)⟩
    · rw [if_neg c7] at H
      have c7b0 : decide (a1 < 0) = false := decide_eq_false c7
      clear c7
      have HC11 := Aside0.mk H
      clear H
      go_enter Try.func8, Try.ntmps8
      go_upto_if 29 with (first | ((with_reducible refine gate_callee (f := 10) rfl ?_); refine goesL_ (some 12) rfl rfl Try.func10 (by kernel_rfl) rfl #[] rfl (by (try simp only [List.map_toArray, List.map_cons, List.map_nil]); first | done | rfl | (simp only [List.length_drop, List.length_take]; rfl)) ?_; (with_reducible refine (undercroftlaw01_alive.calls  true _ A3.out).mono ?_); rintro e w12 ⟨rfl, hb⟩; refine ⟨_, rfl, ?_⟩; have n0_ := Aside0.mk (below_step (by repeat (first | (with_reducible first | exact HB.out | apply below_alloc | apply pw_below_drewN | apply below_drew1) | exact HB.out)) hb); clear HB; have HB := n0_; clear n0_; (try clear hb); (try clear hb2); (try clear hk); (try clear hi)) | ((with_reducible refine gate_callee (f := 18) rfl ?_); refine goesL_ (some 16) rfl rfl Try.func18 (by kernel_rfl) rfl #[.int .u64 a0, .int .i64 a1] rfl (by (try simp only [List.map_toArray, List.map_cons, List.map_nil]); first | done | rfl | (simp only [List.length_drop, List.length_take]; rfl)) ?_; (with_reducible refine (crc_Bytes.calls k a0 a1 t185 _ A5.out).mono ?_); rintro e w13 ⟨v186, rfl, ho0, hb⟩; refine ⟨_, rfl, ?_⟩; have n0_ := Aside0.mk (Kd.R_lower ho0 (below_size (by repeat (first | (with_reducible first | exact HB.out | apply below_alloc | apply pw_below_drewN | apply below_drew1) | exact HB.out)))); have n1_ := Aside0.mk (below_step (by repeat (first | (with_reducible first | exact HB.out | apply below_alloc | apply pw_below_drewN | apply below_drew1) | exact HB.out)) hb); clear HB; have HO187 := n0_; have HB := n1_; clear n0_ n1_; (try clear hb); (try clear hb2); (try clear hk); (try clear hi); (try clear ho0); obtain ⟨Ao14, co14, eo14⟩ := Kd.R_slice HO187.out; subst eo14) | ((with_reducible refine gate_callee (f := 15) rfl ?_); refine goesL_ (some 19) rfl rfl Try.func15 (by kernel_rfl) rfl #[.slice Ao14 t185.length co14] rfl (by (try simp only [List.map_toArray, List.map_cons, List.map_nil]); first | done | rfl | (simp only [List.length_drop, List.length_take]; rfl)) ?_; (with_reducible refine (crc_Number.calls k _ _ t185 t188 t189 _ ?side1 ?side2 A6.out).mono ?_); (case side1 => repeat (first | exact (Kd.R_reads' HO187.out).2.2 | (with_reducible refine Kd.C_alloc ?_ _) | (with_reducible refine Kd.C_drewN ?_ _) | (with_reducible refine Kd.C_drew ?_))); (case side2 => exact (Kd.R_reads' HO187.out).2.1); rintro e w' ⟨rfl, ⟨nd, rfl⟩⟩; refine ⟨_, rfl, ?_⟩))
      (try simp only [Act.put, List.setIfInBounds_toArray, List.set_cons_zero, List.set_cons_succ])
      go_cut [8] (fun v8 wc => ∃ (kq : Nat) (x8_10 : Int), v8 = .int .u64 x8_10 ∧ Aside0 (undercroftlaw01_CrcBack.j0 kq a0 a1 t185 t188 t189 x8_10 = some r) ∧ Aside0 (kq ≤ k) ∧ Aside0 (Kd.R (Kd.int .u8) 5 wc w.heap.size (fun _ => True) (.slice Ao14 t185.length co14) t185) ∧ Aside0 (Below w.heap.size w wc))
      case first =>
        have H := HC11.out
        clear HC11
        by_cases c15 : a1 < 8
        · rw [if_pos c15] at H
          have c15b0 : decide (a1 < 8) = true := decide_eq_true c15
          clear c15
          (first | rw [c15b0] | (simp only [i64_w, i32_w]; rw [c15b0]) | skip)
          obtain ⟨ji16, hji16⟩ : ∃ j_ : Int, (wrap64 (8 * a1)) = j_ := ⟨_, rfl⟩
          replace H : (if 0 ≤ (ji16) then (undercroftlaw01_CrcBack.j0 k a0 a1 t185 t188 t189 (Go.bits .and .u64 a0 (IntKind.u64.wrap ((shl .u64 1 (ji16)) - 1)))) else (none)) = some r := by first | (rw [hji16] at H; exact H) | (simp only [hji16] at H ⊢; exact H)
          have hji16w : (IntKind.i64.wrap (8 * a1)) = ji16 := (i64_w _).trans hji16
          by_cases c17 : 0 ≤ (ji16)
          · rw [if_pos c17] at H
            have c17b0 := eq_true c17
            have c17b1 : decide (0 ≤ (ji16)) = true := decide_eq_true c17
            clear c17
            obtain ⟨ji18, hji18⟩ : ∃ j_ : Int, (shl .u64 1 (ji16)) = j_ := ⟨_, rfl⟩
            replace H : (undercroftlaw01_CrcBack.j0 k a0 a1 t185 t188 t189 (Go.bits .and .u64 a0 (IntKind.u64.wrap ((ji18) - 1)))) = some r := by first | (rw [hji18] at H; exact H) | (simp only [hji18] at H ⊢; exact H)
            have hji18_ : (IntKind.u64.wrap (1 * 2 ^ min (ji16).toNat 64)) = ji18 := hji18
            have hji18z : (ji16) ≤ 64 → (IntKind.u64.wrap (1 * 2 ^ (ji16).toNat)) = ji18 := shl_small hji18
            have hji18u : (IntKind.u64.wrap (2 ^ min (ji16).toNat 64)) = ji18 := by have h_ := hji18_; rw [Int.one_mul] at h_; exact h_
            have hji18v : (ji16) ≤ 64 → (IntKind.u64.wrap (2 ^ (ji16).toNat)) = ji18 := fun hle_ => by have h_ := hji18z hle_; rw [Int.one_mul] at h_; exact h_
            have H' := Aside0.mk H
            clear H
            go_wp2
            go_meet
            case rel => exact ⟨_, (Go.bits .and .u64 a0 (IntKind.u64.wrap ((ji18) - 1))), (by first | rfl | (simp; done) | (simp only [← hji18] <;> (first | rfl | simp)) | (simp [*]; done)), H', ⟨by first | omega | exact Nat.le_refl _⟩, ⟨by (with_reducible repeat (first | apply Kd.R_alloc | apply Kd.R_drewN | apply Kd.R_drew)); exact HO187.out⟩, ⟨by repeat (first | (with_reducible first | exact HB.out | apply below_alloc | apply pw_below_drewN | apply below_drew1) | exact HB.out)⟩⟩
          · rw [if_neg c17] at H
            exact absurd H (by simp)
        · rw [if_neg c15] at H
          have c15b0 : decide (a1 < 8) = false := decide_eq_false c15
          clear c15
          (first | rw [c15b0] | (simp only [i64_w, i32_w]; rw [c15b0]) | skip)
          have H' := Aside0.mk H
          clear H
          go_wp2
          go_meet
          case rel => exact ⟨_, (a0), (by first | rfl | (simp; done) | (simp [*]; done)), H', ⟨by first | omega | exact Nat.le_refl _⟩, ⟨by (with_reducible repeat (first | apply Kd.R_alloc | apply Kd.R_drewN | apply Kd.R_drew)); exact HO187.out⟩, ⟨by repeat (first | (with_reducible first | exact HB.out | apply below_alloc | apply pw_below_drewN | apply below_drew1) | exact HB.out)⟩⟩
      case rest =>
        clear HC11
        try clear c1
        try clear p2
        try clear c4
        try clear p6
        try clear c7
        try clear c7b0
        try clear c8
        try clear c10
        try clear c15
        try clear c15b0
        try clear c17
        try clear c17b0
        try clear c17b1
        try clear c18
        obtain ⟨kq, x8_10, rfl, HA, HJ10, HO_5, HB⟩ := hcut
        cases kq with
        | zero => exact absurd HA.out (by simp [undercroftlaw01_CrcBack.j0])
        | succ kj10 =>
          have H := HA.out
          clear HA
          simp only [undercroftlaw01_CrcBack.j0] at H
          have H' := Aside0.mk H
          clear H
          go_wp2
          go_loopg [9] kj10 (fun kq v9 w' => ∃ (x5_2 : List Int) (x9_2 : Int), v9 = .int .i64 x9_2 ∧ Aside0 (undercroftlaw01_CrcBack.l0 kq a0 a1 x5_2 t188 t189 x8_10 x9_2 = some r) ∧ Aside0 (kq ≤ kj10) ∧ Aside0 (Kd.R (Kd.int .u8) 5 w' w.heap.size (fun _ => True) (.slice Ao14 t185.length co14) x5_2) ∧ Aside0 (Below w.heap.size w w'))
          case atStart => exact ⟨(t185), (0), (by first | rfl | (simp; done) | (simp [*]; done)), H', ⟨Nat.le_refl _⟩, ⟨by (with_reducible repeat (first | apply Kd.R_alloc | apply Kd.R_drewN | apply Kd.R_drew)); exact HO_5.out⟩, ⟨by repeat (first | (with_reducible first | exact HB.out | apply below_alloc | apply pw_below_drewN | apply below_drew1) | exact HB.out)⟩⟩
          case round =>
            clear H'
            try clear c1
            try clear p2
            try clear c4
            try clear p6
            try clear c7
            try clear c7b0
            try clear c8
            try clear c10
            try clear c15
            try clear c15b0
            try clear c17
            try clear c17b0
            try clear c17b1
            try clear c18
            try clear p2
            try clear p6
            obtain ⟨x5_2, x9_2, rfl, HA, HK2, HO_5, HB⟩ := hrel
            have hl5_2 := (Kd.R_reads' HO_5.out).1
            rw [hl5_2] at HO_5
            (try simp only [hl5_2])
            cases gk with
            | zero => exact absurd HA.out (by simp [undercroftlaw01_CrcBack.l0])
            | succ k2 =>
              have H := HA.out
              clear HA
              simp only [undercroftlaw01_CrcBack.l0] at H
              by_cases c19 : x9_2 < (x5_2.length : Int)
              · rw [if_pos c19] at H
                have c19b0 : decide (x9_2 < (x5_2.length : Int)) = true := decide_eq_true c19
                clear c19
                by_cases c20 : 0 ≤ x9_2
                · rw [if_pos c20] at H
                  have c20b0 : decide (0 ≤ x9_2) = true := decide_eq_true c20
                  clear c20
                  obtain ⟨y190, hy190⟩ : ∃ y_ : List Int, y_ = (x5_2.set (x9_2 : Int).toNat 77) := ⟨_, rfl⟩
                  replace H : (undercroftlaw01_CrcBack.l0 k2 a0 a1 y190 t188 t189 x8_10 (wrap64 (x9_2 + 1))) = some r := by first | (rw [hy190]; with_reducible exact H) | (have H2_ := (Option.bind_some _ _).symm.trans H; rw [hy190]; with_reducible exact H2_) | (have H2_ := (Option.bind_some _ _).symm.trans H; with_reducible exact H2_) | with_reducible exact H | (rw [hy190]; exact H) | exact H
                  have Ny190 := Aside0.mk hy190
                  clear hy190
                  have H' := Aside0.mk H
                  clear H
                  have p21 : 0 ≤ (x9_2 : Int) := of_decide_eq_true (by first | (with_reducible assumption) | assumption)
                  have q21 : (x9_2 : Int) < ((x5_2.length : Int) : Int) := of_decide_eq_true (by first | (with_reducible assumption) | assumption)
                  obtain ⟨go21, co21, eo21, gb21, gl21, cl21, HG21⟩ := Kd.R_form HO_5.out (by omega)
                  (first | cases eo21 | (injection eo21 with ea_ en_ ec_; (first | subst ea_ | (injection ea_ with ea_; subst ea_)); subst ec_; clear en_))
                  have GB21 := Aside0.mk gb21
                  have GG21 := Aside0.mk HG21
                  clear gb21 gl21 HG21
                  obtain ⟨hx21_0, hf21_0⟩ := Kd.R_celln 0 HO_5.out (x9_2 : Int) p21 q21
                  replace p21 := eq_true p21
                  replace q21 := eq_true q21
                  have HP22 := Kd.R_putg HO_5.out (x9_2 : Int) 77
                  go_wp2_with (first | ((with_reducible refine gate_store (t := 5) (p := 44) rfl ?_); refine store_event (t := 5) (p := 44) (v := ?vo_w23) (w1 := (wr.setCell ⟨go21, (x9_2 : Int).toNat, none⟩ (.int .u8 77))) ?hg ?ho ?hn ?hr ?_; (case ho => rfl); (case hg => rfl); (case hn => rfl); (case hr => first | (go_simp; done) | (go_simp; rfl)); intro w23 hw; have hg : wr.grownBy w23 (some go21) := (by rw [hw]; exact HP22.2); have hp_ : Kd.R (Kd.int .u8) 5 w23 w.heap.size (fun _ => True) (.slice (some ⟨go21, 0, none⟩) x5_2.length co14) y190 := (by rw [hw, Ny190.out]; exact HP22.1); clear HP22; have n0_ := Aside0.mk (hp_); have n1_ := Aside0.mk ((by rw [hw]; exact below_set (HB.out) GB21.out : Below w.heap.size w w23)); clear HO_5; clear HB; have HO_5 := n0_; have HB := n1_; clear n0_ n1_; clear hg hw hp_))
                  (try simp only [← hl5_2])
                  go_roundg k2
                  case measure => have := HJ10.out; have := HK2.out; omega
                  case rel => exact ⟨(y190), (wrap64 (x9_2 + 1)), (by first | rfl | (simp; done) | (simp [*]; done)), H', ⟨by have := HJ10.out; have := HK2.out; omega⟩, ⟨by (try simp only [hl5_2]); (with_reducible repeat (first | apply Kd.R_alloc | apply Kd.R_drewN | apply Kd.R_drew)); exact HO_5.out⟩, ⟨by repeat (first | (with_reducible first | exact HB.out | apply below_alloc | apply pw_below_drewN | apply below_drew1) | exact HB.out)⟩⟩
                · rw [if_neg c20] at H
                  exact absurd H (by simp)
              · rw [if_neg c19] at H
                have c19b0 : decide (x9_2 < (x5_2.length : Int)) = false := decide_eq_false c19
                clear c19
                replace H := Option.bind_eq_some_iff.mp H
                obtain ⟨t191, A240, H⟩ := H
                replace H : ((crc_Number.f k2 t191).bind fun bt194 => (if t189 = true then (if t188 = x8_10 then (if bt194.2 = true then (if bt194.1 = x8_10 then (some ((x5_2.length : Int) == (mn a1 8))) else (some false)) else (some false)) else (some false)) else (some false))) = some r := H
                have A24 := Aside0.mk A240
                clear A240
                replace H := Option.bind_eq_some_iff.mp H
                obtain ⟨⟨t194, t195⟩, A250, H⟩ := H
                replace H : (if t189 = true then (if t188 = x8_10 then (if t195 = true then (if t194 = x8_10 then (some ((x5_2.length : Int) == (mn a1 8))) else (some false)) else (some false)) else (some false)) else (some false)) = some r := H
                have A25 := Aside0.mk A250
                clear A250
                by_cases c26 : t189 = true
                · subst c26
                  have H1 : (if t188 = x8_10 then (if t195 = true then (if t194 = x8_10 then (some ((x5_2.length : Int) == (mn a1 8))) else (some false)) else (some false)) else (some false)) = some r := by rw [if_pos rfl] at H; exact H
                  clear H
                  have H := H1
                  clear H1
                  by_cases c27 : t188 = x8_10
                  · rw [if_pos c27] at H
                    have c27b0 : (t188 == x8_10) = true := beq_iff_eq.mpr c27
                    have c27b1 : (t188 != x8_10) = false := bne_eq_false_iff_eq.mpr c27
                    clear c27
                    by_cases c28 : t195 = true
                    · subst c28
                      have H1 : (if t194 = x8_10 then (some ((x5_2.length : Int) == (mn a1 8))) else (some false)) = some r := by rw [if_pos rfl] at H; exact H
                      clear H
                      have H := H1
                      clear H1
                      by_cases c29 : t194 = x8_10
                      · rw [if_pos c29] at H
                        have c29b0 : (t194 == x8_10) = true := beq_iff_eq.mpr c29
                        have c29b1 : (t194 != x8_10) = false := bne_eq_false_iff_eq.mpr c29
                        clear c29
                        obtain ⟨ji30, hji30⟩ : ∃ j_ : Int, (mn a1 8) = j_ := ⟨_, rfl⟩
                        replace H : (some ((x5_2.length : Int) == (ji30))) = some r := by first | (rw [hji30] at H; exact H) | (simp only [hji30] at H ⊢; exact H)
                        (try rw [hji30] at A24)
                        (try rw [hji30] at A25)
                        (try (have hji30h : ji30 ≤ 8 := by (rw [← hji30]; unfold mn; (repeat' split) <;> omega)))
                        (try (have hji30g : ji30 ≤ 64 := by omega))
                        have hji30_ : (if 8 < a1 then 8 else a1) = ji30 := hji30
                        obtain rfl := Option.some.inj H
                        go_wp2_with (first | ((with_reducible refine gate_callee (f := 18) rfl ?_); refine goesL_ (some 48) rfl rfl Try.func18 (by kernel_rfl) rfl #[.int .u64 a0, .int .i64 a1] rfl (by (try simp only [List.map_toArray, List.map_cons, List.map_nil]); first | done | rfl | (simp only [List.length_drop, List.length_take]; rfl)) ?_; (with_reducible refine (crc_Bytes.calls k2 a0 a1 t191 _ A24.out).mono ?_); rintro e w31 ⟨v192, rfl, ho0, hb⟩; refine ⟨_, rfl, ?_⟩; have n0_ := Aside0.mk (Kd.R_elder' (by (with_reducible repeat (first | apply Kd.R_alloc | apply Kd.R_drewN | apply Kd.R_drew)); exact HO_5.out) (Kd.R_base ho0) hb); have n1_ := Aside0.mk (Kd.R_lower (Kd.R_new' ho0 (Kd.R_lt (by (with_reducible repeat (first | apply Kd.R_alloc | apply Kd.R_drewN | apply Kd.R_drew)); exact HO_5.out))) (below_size (by repeat (first | (with_reducible first | exact HB.out | apply below_alloc | apply pw_below_drewN | apply below_drew1) | exact HB.out)))); have n2_ := Aside0.mk (below_step (by repeat (first | (with_reducible first | exact HB.out | apply below_alloc | apply pw_below_drewN | apply below_drew1) | exact HB.out)) hb); clear HO_5; clear HB; have HO_5 := n0_; have HO193 := n1_; have HB := n2_; clear n0_ n1_ n2_; (try clear hb); (try clear hb2); (try clear hk); (try clear hi); (try clear ho0); obtain ⟨Ao32, co32, eo32⟩ := Kd.R_slice HO193.out; subst eo32) | ((with_reducible refine gate_callee (f := 15) rfl ?_); refine goesL_ (some 49) rfl rfl Try.func15 (by kernel_rfl) rfl #[.slice Ao32 t191.length co32] rfl (by (try simp only [List.map_toArray, List.map_cons, List.map_nil]); first | done | rfl | (simp only [List.length_drop, List.length_take]; rfl)) ?_; (with_reducible refine (crc_Number.calls k2 _ _ t191 t194 true _ ?side1 ?side2 A25.out).mono ?_); (case side1 => repeat (first | exact (Kd.R_reads' HO193.out).2.2 | (with_reducible refine Kd.C_alloc ?_ _) | (with_reducible refine Kd.C_drewN ?_ _) | (with_reducible refine Kd.C_drew ?_))); (case side2 => exact (Kd.R_reads' HO193.out).2.1); rintro e w' ⟨rfl, ⟨nd, rfl⟩⟩; refine ⟨_, rfl, ?_⟩))
                        go_ret
                        exact ⟨by first | rfl | (simp [errW_none, errW_some] <;> rfl) | (simp only [← hji30]; first | rfl | (simp [errW_none, errW_some] <;> rfl)) | (simp [*, errW_none, errW_some] <;> rfl), by repeat (first | (with_reducible first | exact HB.out | apply below_alloc | apply pw_below_drewN | apply below_drew1) | exact HB.out)⟩
                      · rw [if_neg c29] at H
                        have c29b0 : (t194 == x8_10) = false := beq_eq_false_iff_ne.mpr c29
                        have c29b1 : (t194 != x8_10) = true := bne_iff_ne.mpr c29
                        obtain rfl := Option.some.inj H
                        go_wp2_with (first | ((with_reducible refine gate_callee (f := 18) rfl ?_); refine goesL_ (some 48) rfl rfl Try.func18 (by kernel_rfl) rfl #[.int .u64 a0, .int .i64 a1] rfl (by (try simp only [List.map_toArray, List.map_cons, List.map_nil]); first | done | rfl | (simp only [List.length_drop, List.length_take]; rfl)) ?_; (with_reducible refine (crc_Bytes.calls k2 a0 a1 t191 _ A24.out).mono ?_); rintro e w33 ⟨v192, rfl, ho0, hb⟩; refine ⟨_, rfl, ?_⟩; have n0_ := Aside0.mk (Kd.R_elder' (by (with_reducible repeat (first | apply Kd.R_alloc | apply Kd.R_drewN | apply Kd.R_drew)); exact HO_5.out) (Kd.R_base ho0) hb); have n1_ := Aside0.mk (Kd.R_lower (Kd.R_new' ho0 (Kd.R_lt (by (with_reducible repeat (first | apply Kd.R_alloc | apply Kd.R_drewN | apply Kd.R_drew)); exact HO_5.out))) (below_size (by repeat (first | (with_reducible first | exact HB.out | apply below_alloc | apply pw_below_drewN | apply below_drew1) | exact HB.out)))); have n2_ := Aside0.mk (below_step (by repeat (first | (with_reducible first | exact HB.out | apply below_alloc | apply pw_below_drewN | apply below_drew1) | exact HB.out)) hb); clear HO_5; clear HB; have HO_5 := n0_; have HO193 := n1_; have HB := n2_; clear n0_ n1_ n2_; (try clear hb); (try clear hb2); (try clear hk); (try clear hi); (try clear ho0); obtain ⟨Ao34, co34, eo34⟩ := Kd.R_slice HO193.out; subst eo34) | ((with_reducible refine gate_callee (f := 15) rfl ?_); refine goesL_ (some 49) rfl rfl Try.func15 (by kernel_rfl) rfl #[.slice Ao34 t191.length co34] rfl (by (try simp only [List.map_toArray, List.map_cons, List.map_nil]); first | done | rfl | (simp only [List.length_drop, List.length_take]; rfl)) ?_; (with_reducible refine (crc_Number.calls k2 _ _ t191 t194 true _ ?side1 ?side2 A25.out).mono ?_); (case side1 => repeat (first | exact (Kd.R_reads' HO193.out).2.2 | (with_reducible refine Kd.C_alloc ?_ _) | (with_reducible refine Kd.C_drewN ?_ _) | (with_reducible refine Kd.C_drew ?_))); (case side2 => exact (Kd.R_reads' HO193.out).2.1); rintro e w' ⟨rfl, ⟨nd, rfl⟩⟩; refine ⟨_, rfl, ?_⟩))
                        go_ret
                        exact ⟨by first | rfl | (simp [errW_none, errW_some] <;> rfl) | (simp [*, errW_none, errW_some] <;> rfl), by repeat (first | (with_reducible first | exact HB.out | apply below_alloc | apply pw_below_drewN | apply below_drew1) | exact HB.out)⟩
                    · replace c28 := Bool.eq_false_iff.mpr c28
                      subst c28
                      have H1 : (some false) = some r := by rw [if_neg (show ¬ (false = true) by decide)] at H; exact H
                      clear H
                      have H := H1
                      clear H1
                      obtain rfl := Option.some.inj H
                      go_wp2_with (first | ((with_reducible refine gate_callee (f := 18) rfl ?_); refine goesL_ (some 48) rfl rfl Try.func18 (by kernel_rfl) rfl #[.int .u64 a0, .int .i64 a1] rfl (by (try simp only [List.map_toArray, List.map_cons, List.map_nil]); first | done | rfl | (simp only [List.length_drop, List.length_take]; rfl)) ?_; (with_reducible refine (crc_Bytes.calls k2 a0 a1 t191 _ A24.out).mono ?_); rintro e w35 ⟨v192, rfl, ho0, hb⟩; refine ⟨_, rfl, ?_⟩; have n0_ := Aside0.mk (Kd.R_elder' (by (with_reducible repeat (first | apply Kd.R_alloc | apply Kd.R_drewN | apply Kd.R_drew)); exact HO_5.out) (Kd.R_base ho0) hb); have n1_ := Aside0.mk (Kd.R_lower (Kd.R_new' ho0 (Kd.R_lt (by (with_reducible repeat (first | apply Kd.R_alloc | apply Kd.R_drewN | apply Kd.R_drew)); exact HO_5.out))) (below_size (by repeat (first | (with_reducible first | exact HB.out | apply below_alloc | apply pw_below_drewN | apply below_drew1) | exact HB.out)))); have n2_ := Aside0.mk (below_step (by repeat (first | (with_reducible first | exact HB.out | apply below_alloc | apply pw_below_drewN | apply below_drew1) | exact HB.out)) hb); clear HO_5; clear HB; have HO_5 := n0_; have HO193 := n1_; have HB := n2_; clear n0_ n1_ n2_; (try clear hb); (try clear hb2); (try clear hk); (try clear hi); (try clear ho0); obtain ⟨Ao36, co36, eo36⟩ := Kd.R_slice HO193.out; subst eo36) | ((with_reducible refine gate_callee (f := 15) rfl ?_); refine goesL_ (some 49) rfl rfl Try.func15 (by kernel_rfl) rfl #[.slice Ao36 t191.length co36] rfl (by (try simp only [List.map_toArray, List.map_cons, List.map_nil]); first | done | rfl | (simp only [List.length_drop, List.length_take]; rfl)) ?_; (with_reducible refine (crc_Number.calls k2 _ _ t191 t194 false _ ?side1 ?side2 A25.out).mono ?_); (case side1 => repeat (first | exact (Kd.R_reads' HO193.out).2.2 | (with_reducible refine Kd.C_alloc ?_ _) | (with_reducible refine Kd.C_drewN ?_ _) | (with_reducible refine Kd.C_drew ?_))); (case side2 => exact (Kd.R_reads' HO193.out).2.1); rintro e w' ⟨rfl, ⟨nd, rfl⟩⟩; refine ⟨_, rfl, ?_⟩))
                      go_ret
                      exact ⟨by first | rfl | (simp [errW_none, errW_some] <;> rfl) | (simp [*, errW_none, errW_some] <;> rfl), by repeat (first | (with_reducible first | exact HB.out | apply below_alloc | apply pw_below_drewN | apply below_drew1) | exact HB.out)⟩
                  · rw [if_neg c27] at H
                    have c27b0 : (t188 == x8_10) = false := beq_eq_false_iff_ne.mpr c27
                    have c27b1 : (t188 != x8_10) = true := bne_iff_ne.mpr c27
                    obtain rfl := Option.some.inj H
                    go_wp2_with (first | ((with_reducible refine gate_callee (f := 18) rfl ?_); refine goesL_ (some 48) rfl rfl Try.func18 (by kernel_rfl) rfl #[.int .u64 a0, .int .i64 a1] rfl (by (try simp only [List.map_toArray, List.map_cons, List.map_nil]); first | done | rfl | (simp only [List.length_drop, List.length_take]; rfl)) ?_; (with_reducible refine (crc_Bytes.calls k2 a0 a1 t191 _ A24.out).mono ?_); rintro e w37 ⟨v192, rfl, ho0, hb⟩; refine ⟨_, rfl, ?_⟩; have n0_ := Aside0.mk (Kd.R_elder' (by (with_reducible repeat (first | apply Kd.R_alloc | apply Kd.R_drewN | apply Kd.R_drew)); exact HO_5.out) (Kd.R_base ho0) hb); have n1_ := Aside0.mk (Kd.R_lower (Kd.R_new' ho0 (Kd.R_lt (by (with_reducible repeat (first | apply Kd.R_alloc | apply Kd.R_drewN | apply Kd.R_drew)); exact HO_5.out))) (below_size (by repeat (first | (with_reducible first | exact HB.out | apply below_alloc | apply pw_below_drewN | apply below_drew1) | exact HB.out)))); have n2_ := Aside0.mk (below_step (by repeat (first | (with_reducible first | exact HB.out | apply below_alloc | apply pw_below_drewN | apply below_drew1) | exact HB.out)) hb); clear HO_5; clear HB; have HO_5 := n0_; have HO193 := n1_; have HB := n2_; clear n0_ n1_ n2_; (try clear hb); (try clear hb2); (try clear hk); (try clear hi); (try clear ho0); obtain ⟨Ao38, co38, eo38⟩ := Kd.R_slice HO193.out; subst eo38) | ((with_reducible refine gate_callee (f := 15) rfl ?_); refine goesL_ (some 49) rfl rfl Try.func15 (by kernel_rfl) rfl #[.slice Ao38 t191.length co38] rfl (by (try simp only [List.map_toArray, List.map_cons, List.map_nil]); first | done | rfl | (simp only [List.length_drop, List.length_take]; rfl)) ?_; (with_reducible refine (crc_Number.calls k2 _ _ t191 t194 t195 _ ?side1 ?side2 A25.out).mono ?_); (case side1 => repeat (first | exact (Kd.R_reads' HO193.out).2.2 | (with_reducible refine Kd.C_alloc ?_ _) | (with_reducible refine Kd.C_drewN ?_ _) | (with_reducible refine Kd.C_drew ?_))); (case side2 => exact (Kd.R_reads' HO193.out).2.1); rintro e w' ⟨rfl, ⟨nd, rfl⟩⟩; refine ⟨_, rfl, ?_⟩))
                    go_ret
                    exact ⟨by first | rfl | (simp [errW_none, errW_some] <;> rfl) | (simp [*, errW_none, errW_some] <;> rfl), by repeat (first | (with_reducible first | exact HB.out | apply below_alloc | apply pw_below_drewN | apply below_drew1) | exact HB.out)⟩
                · replace c26 := Bool.eq_false_iff.mpr c26
                  subst c26
                  have H1 : (some false) = some r := by rw [if_neg (show ¬ (false = true) by decide)] at H; exact H
                  clear H
                  have H := H1
                  clear H1
                  obtain rfl := Option.some.inj H
                  go_wp2_with (first | ((with_reducible refine gate_callee (f := 18) rfl ?_); refine goesL_ (some 48) rfl rfl Try.func18 (by kernel_rfl) rfl #[.int .u64 a0, .int .i64 a1] rfl (by (try simp only [List.map_toArray, List.map_cons, List.map_nil]); first | done | rfl | (simp only [List.length_drop, List.length_take]; rfl)) ?_; (with_reducible refine (crc_Bytes.calls k2 a0 a1 t191 _ A24.out).mono ?_); rintro e w39 ⟨v192, rfl, ho0, hb⟩; refine ⟨_, rfl, ?_⟩; have n0_ := Aside0.mk (Kd.R_elder' (by (with_reducible repeat (first | apply Kd.R_alloc | apply Kd.R_drewN | apply Kd.R_drew)); exact HO_5.out) (Kd.R_base ho0) hb); have n1_ := Aside0.mk (Kd.R_lower (Kd.R_new' ho0 (Kd.R_lt (by (with_reducible repeat (first | apply Kd.R_alloc | apply Kd.R_drewN | apply Kd.R_drew)); exact HO_5.out))) (below_size (by repeat (first | (with_reducible first | exact HB.out | apply below_alloc | apply pw_below_drewN | apply below_drew1) | exact HB.out)))); have n2_ := Aside0.mk (below_step (by repeat (first | (with_reducible first | exact HB.out | apply below_alloc | apply pw_below_drewN | apply below_drew1) | exact HB.out)) hb); clear HO_5; clear HB; have HO_5 := n0_; have HO193 := n1_; have HB := n2_; clear n0_ n1_ n2_; (try clear hb); (try clear hb2); (try clear hk); (try clear hi); (try clear ho0); obtain ⟨Ao40, co40, eo40⟩ := Kd.R_slice HO193.out; subst eo40) | ((with_reducible refine gate_callee (f := 15) rfl ?_); refine goesL_ (some 49) rfl rfl Try.func15 (by kernel_rfl) rfl #[.slice Ao40 t191.length co40] rfl (by (try simp only [List.map_toArray, List.map_cons, List.map_nil]); first | done | rfl | (simp only [List.length_drop, List.length_take]; rfl)) ?_; (with_reducible refine (crc_Number.calls k2 _ _ t191 t194 t195 _ ?side1 ?side2 A25.out).mono ?_); (case side1 => repeat (first | exact (Kd.R_reads' HO193.out).2.2 | (with_reducible refine Kd.C_alloc ?_ _) | (with_reducible refine Kd.C_drewN ?_ _) | (with_reducible refine Kd.C_drew ?_))); (case side2 => exact (Kd.R_reads' HO193.out).2.1); rintro e w' ⟨rfl, ⟨nd, rfl⟩⟩; refine ⟨_, rfl, ?_⟩))
                  go_ret
                  exact ⟨by first | rfl | (simp [errW_none, errW_some] <;> rfl) | (simp [*, errW_none, errW_some] <;> rfl), by repeat (first | (with_reducible first | exact HB.out | apply below_alloc | apply pw_below_drewN | apply below_drew1) | exact HB.out)⟩
  · replace c4 := Bool.eq_false_iff.mpr c4
    subst c4
    have H1 : (some false) = some r := by rw [if_neg (show ¬ (false = true) by decide)] at H; exact H
    clear H
    have H := H1
    clear H1
    obtain rfl := Option.some.inj H
    go_enter Try.func8, Try.ntmps8
    go_wp2_with (first | ((with_reducible refine gate_callee (f := 10) rfl ?_); refine goesL_ (some 12) rfl rfl Try.func10 (by kernel_rfl) rfl #[] rfl (by (try simp only [List.map_toArray, List.map_cons, List.map_nil]); first | done | rfl | (simp only [List.length_drop, List.length_take]; rfl)) ?_; (with_reducible refine (undercroftlaw01_alive.calls  false _ A3.out).mono ?_); rintro e w41 ⟨rfl, hb⟩; refine ⟨_, rfl, ?_⟩; have n0_ := Aside0.mk (below_step (by repeat (first | (with_reducible first | exact HB.out | apply below_alloc | apply pw_below_drewN | apply below_drew1) | exact HB.out)) hb); clear HB; have HB := n0_; clear n0_; (try clear hb); (try clear hb2); (try clear hk); (try clear hi)))
    go_ret
    exact ⟨by first | rfl | (simp [errW_none, errW_some] <;> rfl) | (simp [*, errW_none, errW_some] <;> rfl), by repeat (first | (with_reducible first | exact HB.out | apply below_alloc | apply pw_below_drewN | apply below_drew1) | exact HB.out)⟩

/-- THE ONE PURE STATEMENT of undercroftlaw01_CrcBack: yours. -/
def undercroftlaw01_CrcBack.Pure : Prop := ∀ (a0 : Int) (a1 : Int), (Lit.int .u64 a0).wf = true → (Lit.int .i64 a1).wf = true → ∃ k, undercroftlaw01_CrcBack.f k a0 a1 = some true
theorem undercroftlaw01_CrcBack.walk (P : undercroftlaw01_CrcBack.Pure) (a0 : Int) (a1 : Int) (w : World) (w0 : (Lit.int .u64 a0).wf = true) (w1 : (Lit.int .i64 a1).wf = true) :
    Calls Try.prog 8 #[.int .u64 a0, .int .i64 a1] w fun e w' => e = .returned (.bool true) ∧ Below w.heap.size w w' := by
  obtain ⟨k, h⟩ := P a0 a1 w0 w1
  refine (undercroftlaw01_CrcBack.calls k a0 a1 true w h).mono ?_
  rintro e w' ⟨rfl, hd⟩
  exact ⟨rfl, hd⟩

end Go.Proofs.Ytdailnkioldbnaa.U
