/- Ux51: what this claim uses. Laid by slim.py (ours). -/
import Derived.Test.YtlbfpjhnpnbikaaKUx0
import Derived.Test.YtlbfpjhnpnbikaaKUx50
namespace Go.Proofs.Ytlbfpjhnpnbikaa.U
open Go.RowKit Go.Proofs.YtlbfpjhnpnbikaaW.PrintWords Go.Proofs.YtlbfpjhnpnbikaaW.PrintLast Go.Proofs.YtlbfpjhnpnbikaaW.PrintMore
attribute [local go_sem] max2_int min2_int max_two min_two max_three min_three max_four min_four
set_option linter.unusedVariables false
set_option linter.unusedSimpArgs false
def undercroftref04_Fair.l0 : Nat → Int → Int → Int → Int → Int → List (S66) → List Int → Option (Bool)
  | 0, _, _, _, _, _, _, _ => none
  | k + 1, x1, x2, x3, x9, x168000, x168001, x168002 => if x9 < (wrap64 ((x168001.length : Int) + (x168002.length : Int))) then (if x9 < (x168001.length : Int) then (if 0 ≤ x9 then (if ((rd_T66 x168001 x9).f0) ≥ x1 then (some false) else (if ((rd_T66 x168001 x9).f0) ≥ x2 then (if ((rd_T66 x168001 x9).f0) < (wrap64 (x2 + x3)) then (some false) else (undercroftref04_Fair.l0 k x1 x2 x3 (wrap64 (x9 + 1)) x168000 x168001 x168002)) else (undercroftref04_Fair.l0 k x1 x2 x3 (wrap64 (x9 + 1)) x168000 x168001 x168002))) else (none)) else (if 0 ≤ (wrap64 (x9 - (x168001.length : Int))) then (if (wrap64 (x9 - (x168001.length : Int))) < (x168002.length : Int) then (if (rd x168002 (wrap64 (x9 - (x168001.length : Int)))) ≥ x1 then (some false) else (if (rd x168002 (wrap64 (x9 - (x168001.length : Int)))) ≥ x2 then (if (rd x168002 (wrap64 (x9 - (x168001.length : Int)))) < (wrap64 (x2 + x3)) then (some false) else (undercroftref04_Fair.l0 k x1 x2 x3 (wrap64 (x9 + 1)) x168000 x168001 x168002)) else (undercroftref04_Fair.l0 k x1 x2 x3 (wrap64 (x9 + 1)) x168000 x168001 x168002))) else (none)) else (none))) else (some true)
def undercroftref04_Fair.f (k : Nat) (a0_0 : Int) (l0_1 : List (S66)) (l0_2 : List Int) (a1 : Int) (a2 : Int) (a3 : Int) : Option (Bool) := (undercroftref03_May.f a0_0 l0_1 l0_2).bind fun t168 => (if t168 = true then (undercroftref04_Fair.l0 k a1 a2 a3 0 a0_0 l0_1 l0_2) else (some false))
theorem undercroftref04_Fair.mono_l : ∀ k, (∀ y0 y1 y2 y3 y4 y5 y6, LeO (undercroftref04_Fair.l0 k y0 y1 y2 y3 y4 y5 y6) (undercroftref04_Fair.l0 (k + 1) y0 y1 y2 y3 y4 y5 y6))
  | 0 => fun _ _ _ _ _ _ _ r h => by simp [undercroftref04_Fair.l0] at h
  | k + 1 => by
    have ih0 := undercroftref04_Fair.mono_l k
    · intro y0 y1 y2 y3 y4 y5 y6
      unfold undercroftref04_Fair.l0
      repeat' first
      | (with_reducible exact ih0 _ _ _ _ _ _ _)
      | (with_reducible exact LeO.refl _)
      | (with_reducible exact LeO.none _)
      | (with_reducible refine LeO.ite ?_ ?_)
      | (with_reducible refine LeO.bind ?_ (fun _ => ?_))
      | exact ih0 _ _ _ _ _ _ _
      | exact LeO.none _
      | refine LeO.ite ?_ ?_
      | refine LeO.bind ?_ (fun _ => ?_)
theorem undercroftref04_Fair.mono : ∀ a0 a1 a2 a3 a4 a5 k, LeO (undercroftref04_Fair.f k a0 a1 a2 a3 a4 a5) (undercroftref04_Fair.f (k + 1) a0 a1 a2 a3 a4 a5) := by
  intro a0 a1 a2 a3 a4 a5 k
  have ih0 := undercroftref04_Fair.mono_l k
  unfold undercroftref04_Fair.f
  repeat' first
      | (with_reducible exact ih0 _ _ _ _ _ _ _)
      | (with_reducible exact LeO.refl _)
      | (with_reducible exact LeO.none _)
      | (with_reducible refine LeO.ite ?_ ?_)
      | (with_reducible refine LeO.bind ?_ (fun _ => ?_))
      | exact ih0 _ _ _ _ _ _ _
      | exact LeO.none _
      | refine LeO.ite ?_ ?_
      | refine LeO.bind ?_ (fun _ => ?_)
set_option maxHeartbeats 8000000 in
set_option maxRecDepth 100000 in
theorem undercroftref04_Fair.calls (k : Nat) (a0_0 : Int) (A0_1 : Option Addr) (c0_1 : Nat) (l0_1 : List (S66)) (A0_2 : Option Addr) (c0_2 : Nat) (l0_2 : List Int) (a1 : Int) (a2 : Int) (a3 : Int) (r : Bool) (w : World) (hr0_1 : Kd.C k66 w A0_1 l0_1.length l0_1) (hc0_1 : l0_1.length ≤ c0_1) (hr0_2 : Kd.C (Kd.int .i64) w A0_2 l0_2.length l0_2) (hc0_2 : l0_2.length ≤ c0_2) (h : undercroftref04_Fair.f k a0_0 l0_1 l0_2 a1 a2 a3 = some r) :
    Calls Try.prog 75 #[.agg #[.int .u64 a0_0, .slice A0_1 l0_1.length c0_1, .slice A0_2 l0_2.length c0_2], .int .i64 a1, .int .i64 a2, .int .i64 a3] w fun e w' => e = .returned (.bool r) ∧ Below w.heap.size w w' := by
  have hu60 := Try.underlying60
  have HR0_1 := Aside0.mk hr0_1
  have HC0_1 := Aside0.mk hc0_1
  clear hr0_1 hc0_1
  have HR0_2 := Aside0.mk hr0_2
  have HC0_2 := Aside0.mk hc0_2
  clear hr0_2 hc0_2
  have HB := Aside0.mk (Below.refl w.heap.size w)
  have H : ((undercroftref03_May.f a0_0 l0_1 l0_2).bind fun t168 => (if t168 = true then (undercroftref04_Fair.l0 k a1 a2 a3 0 a0_0 l0_1 l0_2) else (some false))) = some r := h
  clear h
  replace H := Option.bind_eq_some_iff.mp H
  obtain ⟨t168, A50, H⟩ := H
  replace H : (if t168 = true then (undercroftref04_Fair.l0 k a1 a2 a3 0 a0_0 l0_1 l0_2) else (some false)) = some r := H
  have A5 := Aside0.mk A50
  clear A50
  by_cases c6 : t168 = true
  · subst c6
    have H1 : (undercroftref04_Fair.l0 k a1 a2 a3 0 a0_0 l0_1 l0_2) = some r := by rw [if_pos rfl] at H; exact H
    clear H
    have H := H1
    clear H1
    have H' := Aside0.mk H
    clear H
    go_enter Try.func75, Try.ntmps75
    go_wp2_with (first | ((with_reducible refine gate_dst (N := 4) rfl ?_); refine box_event ?hg (N := 4) ?hd (cs := #[.int .u64 a0_0, .slice A0_1 l0_1.length c0_1, .slice A0_2 l0_2.length c0_2]) (t := 60) ?hr ?_; (case hd => rfl); (case hg => rfl); (case hr => go_simp; first | done | rfl); intro gb167 hg w7 hbox hb; have n0_ := Aside0.mk (below_step (by repeat (first | (with_reducible first | exact HB.out | apply below_alloc | apply pw_below_drewN | apply below_drew1) | exact HB.out)) hb); have n1_ := Aside0.mk (hbox); have n2_ := Aside0.mk ((by rw [hg]; exact (below_size (by repeat (first | (with_reducible first | exact HB.out | apply below_alloc | apply pw_below_drewN | apply below_drew1) | exact HB.out))) : w.heap.size ≤ gb167)); have n3_ := Aside0.mk ((by rw [hg]; exact (below_size (by repeat (first | (with_reducible first | exact HB.out | apply below_alloc | apply pw_below_drewN | apply below_drew1) | exact HB.out))) : w.heap.size ≤ gb167)); clear HB; have HB := n0_; have BK167 := n1_; have GW167 := n2_; have GE167 := n3_; clear n0_ n1_ n2_ n3_; clear hb hbox hg; have hcz8_0 : w7.cell? ⟨gb167, 0, none⟩ = some (.int .u64 a0_0) := (blk_cell BK167.out 0).trans rfl; have hcz8_1 : w7.cell? ⟨gb167, 1, none⟩ = some (.slice A0_1 l0_1.length c0_1) := (blk_cell BK167.out 1).trans rfl; have hcz8_2 : w7.cell? ⟨gb167, 2, none⟩ = some (.slice A0_2 l0_2.length c0_2) := (blk_cell BK167.out 2).trans rfl; have hfz8_0 := blk_frozen BK167.out 0; have hfz8_1 := blk_frozen BK167.out 1; have hfz8_2 := blk_frozen BK167.out 2) | ((with_reducible refine gate_callee (f := 83) rfl ?_); refine goesL_ (some 12) rfl rfl Try.func83 (by kernel_rfl) rfl #[.agg #[.int .u64 a0_0, .slice A0_1 l0_1.length c0_1, .slice A0_2 l0_2.length c0_2]] rfl (by (try simp only [List.map_toArray, List.map_cons, List.map_nil]); first | done | rfl | (simp only [List.length_drop, List.length_take]; rfl)) ?_; (with_reducible refine (undercroftref03_May.calls a0_0 _ _ l0_1 _ _ l0_2 true _ ?side1 ?side2 ?side3 ?side4 A5.out).mono ?_); (case side1 => repeat (first | exact (Kd.C_below HR0_1.out HB.out) | (with_reducible refine Kd.C_alloc ?_ _) | (with_reducible refine Kd.C_drewN ?_ _) | (with_reducible refine Kd.C_drew ?_))); (case side2 => exact HC0_1.out); (case side3 => repeat (first | exact (Kd.C_below HR0_2.out HB.out) | (with_reducible refine Kd.C_alloc ?_ _) | (with_reducible refine Kd.C_drewN ?_ _) | (with_reducible refine Kd.C_drew ?_))); (case side4 => exact HC0_2.out); rintro e w9 ⟨rfl, hb⟩; refine ⟨_, rfl, ?_⟩; have n0_ := Aside0.mk (blk_below (g := gb167) (o := .cells #[.int .u64 a0_0, .slice A0_1 l0_1.length c0_1, .slice A0_2 l0_2.length c0_2] 60 (0, 0)) (by (with_reducible repeat (first | refine blk_drewN ?_ _ | refine blk_drew ?_ | refine blk_alloc ?_ _)); exact BK167.out) hb); have n1_ := Aside0.mk (below_step (by repeat (first | (with_reducible first | exact HB.out | apply below_alloc | apply pw_below_drewN | apply below_drew1 | refine below_set ?_ GE167.out) | exact HB.out)) hb); clear BK167; clear HB; have BK167 := n0_; have HB := n1_; clear n0_ n1_; (try clear hb); (try clear hb2); (try clear hk); (try clear hi)))
    go_loopg [9] k (fun kq v9 w' => ∃ (x9_1 : Int), v9 = .int .i64 x9_1 ∧ Aside0 (undercroftref04_Fair.l0 kq a1 a2 a3 x9_1 a0_0 l0_1 l0_2 = some r) ∧ Aside0 (kq ≤ k) ∧ Aside0 (w'.heap[gb167]? = some (.cells #[.int .u64 a0_0, (.slice A0_1 l0_1.length c0_1), (.slice A0_2 l0_2.length c0_2)] 60 (0, 0))) ∧ Aside0 (Below w.heap.size w w'))
    case atStart => exact ⟨(0), (by first | rfl | (simp; done) | (simp [*]; done)), H', ⟨Nat.le_refl _⟩, ⟨by (with_reducible repeat (first | refine blk_drewN ?_ _ | refine blk_drew ?_ | refine blk_alloc ?_ _)); exact BK167.out⟩, ⟨by repeat (first | (with_reducible first | exact HB.out | apply below_alloc | apply pw_below_drewN | apply below_drew1 | refine below_set ?_ GE167.out) | exact HB.out)⟩⟩
    case round =>
      clear H'
      try clear p2
      try clear c6
      try clear c7
      try clear c8
      try clear hcz8_0
      try clear hcz8_1
      try clear hcz8_2
      try clear hfz8_0
      try clear hfz8_1
      try clear hfz8_2
      obtain ⟨x9_1, rfl, HA, HK1, BK167, HB⟩ := hrel
      cases gk with
      | zero => exact absurd HA.out (by simp [undercroftref04_Fair.l0])
      | succ k1 =>
        have H := HA.out
        clear HA
        simp only [undercroftref04_Fair.l0] at H
        by_cases c10 : x9_1 < (wrap64 ((l0_1.length : Int) + (l0_2.length : Int)))
        rotate_left
        · rw [if_neg c10] at H
          have c10b0 : decide (x9_1 < (wrap64 ((l0_1.length : Int) + (l0_2.length : Int)))) = false := decide_eq_false c10
          clear c10
          obtain rfl := Option.some.inj H
          have hcz30_0 : wr.cell? ⟨gb167, 0, none⟩ = some (.int .u64 a0_0) := (blk_cell BK167.out 0).trans rfl
          have hcz30_1 : wr.cell? ⟨gb167, 1, none⟩ = some (.slice A0_1 l0_1.length c0_1) := (blk_cell BK167.out 1).trans rfl
          have hcz30_2 : wr.cell? ⟨gb167, 2, none⟩ = some (.slice A0_2 l0_2.length c0_2) := (blk_cell BK167.out 2).trans rfl
          have hfz30_0 := blk_frozen BK167.out 0
          have hfz30_1 := blk_frozen BK167.out 1
          have hfz30_2 := blk_frozen BK167.out 2
          go_wp2
          go_ret
          exact ⟨by first | rfl | (simp [errW_none, errW_some] <;> rfl) | (simp [*, errW_none, errW_some] <;> rfl), by repeat (first | (with_reducible first | exact HB.out | apply below_alloc | apply pw_below_drewN | apply below_drew1 | refine below_set ?_ GE167.out) | exact HB.out)⟩
        rw [if_pos c10] at H
        have c10b0 : decide (x9_1 < (wrap64 ((l0_1.length : Int) + (l0_2.length : Int)))) = true := decide_eq_true c10
        clear c10
        by_cases c11 : x9_1 < (l0_1.length : Int)
        · rw [if_pos c11] at H
          have c11b0 : decide (x9_1 < (l0_1.length : Int)) = true := decide_eq_true c11
          clear c11
          by_cases c12 : 0 ≤ x9_1
          rotate_left
          · rw [if_neg c12] at H
            exact absurd H (by simp)
          rw [if_pos c12] at H
          have c12b0 : decide (0 ≤ x9_1) = true := decide_eq_true c12
          clear c12
          by_cases c13 : ((rd_T66 l0_1 x9_1).f0) ≥ a1
          · rw [if_pos c13] at H
            have c13b0 : decide (a1 ≤ ((rd_T66 l0_1 x9_1).f0)) = true := decide_eq_true c13
            clear c13
            obtain rfl := Option.some.inj H
            have hcz14_0 : wr.cell? ⟨gb167, 0, none⟩ = some (.int .u64 a0_0) := (blk_cell BK167.out 0).trans rfl
            have hcz14_1 : wr.cell? ⟨gb167, 1, none⟩ = some (.slice A0_1 l0_1.length c0_1) := (blk_cell BK167.out 1).trans rfl
            have hcz14_2 : wr.cell? ⟨gb167, 2, none⟩ = some (.slice A0_2 l0_2.length c0_2) := (blk_cell BK167.out 2).trans rfl
            have hfz14_0 := blk_frozen BK167.out 0
            have hfz14_1 := blk_frozen BK167.out 1
            have hfz14_2 := blk_frozen BK167.out 2
            have p169 : 0 ≤ (x9_1 : Int) := of_decide_eq_true (by first | (with_reducible assumption) | assumption)
            have q169 : x9_1 < (l0_1.length : Int) := of_decide_eq_true (by first | (with_reducible assumption) | assumption)
            obtain ⟨ad169, A169_1, c169_1, e169, hx169_0, hx169_1, hl169_1, hi169_1⟩ := at_T66 HR0_1.out x9_1 p169 q169
            cases e169
            replace hx169_0 := (HB.out.cell (World.block_lt_of_cell? w _ hx169_0)).trans hx169_0
            replace hx169_1 := (HB.out.cell (World.block_lt_of_cell? w _ hx169_1)).trans hx169_1
            have HR169_1 := Aside0.mk hi169_1
            have HC169_1 := Aside0.mk hl169_1
            clear hi169_1 hl169_1
            replace p169 := eq_true p169
            replace q169 := eq_true q169
            go_wp2
            go_ret
            exact ⟨by first | rfl | (simp [errW_none, errW_some] <;> rfl) | (simp [*, errW_none, errW_some] <;> rfl), by repeat (first | (with_reducible first | exact HB.out | apply below_alloc | apply pw_below_drewN | apply below_drew1 | refine below_set ?_ GE167.out) | exact HB.out)⟩
          rw [if_neg c13] at H
          have c13b0 : decide (a1 ≤ ((rd_T66 l0_1 x9_1).f0)) = false := decide_eq_false c13
          clear c13
          by_cases c15 : ((rd_T66 l0_1 x9_1).f0) ≥ a2
          rotate_left
          · rw [if_neg c15] at H
            have c15b0 : decide (a2 ≤ ((rd_T66 l0_1 x9_1).f0)) = false := decide_eq_false c15
            clear c15
            have H' := Aside0.mk H
            clear H
            have hcz19_0 : wr.cell? ⟨gb167, 0, none⟩ = some (.int .u64 a0_0) := (blk_cell BK167.out 0).trans rfl
            have hcz19_1 : wr.cell? ⟨gb167, 1, none⟩ = some (.slice A0_1 l0_1.length c0_1) := (blk_cell BK167.out 1).trans rfl
            have hcz19_2 : wr.cell? ⟨gb167, 2, none⟩ = some (.slice A0_2 l0_2.length c0_2) := (blk_cell BK167.out 2).trans rfl
            have hfz19_0 := blk_frozen BK167.out 0
            have hfz19_1 := blk_frozen BK167.out 1
            have hfz19_2 := blk_frozen BK167.out 2
            have p169 : 0 ≤ (x9_1 : Int) := of_decide_eq_true (by first | (with_reducible assumption) | assumption)
            have q169 : x9_1 < (l0_1.length : Int) := of_decide_eq_true (by first | (with_reducible assumption) | assumption)
            obtain ⟨ad169, A169_1, c169_1, e169, hx169_0, hx169_1, hl169_1, hi169_1⟩ := at_T66 HR0_1.out x9_1 p169 q169
            cases e169
            replace hx169_0 := (HB.out.cell (World.block_lt_of_cell? w _ hx169_0)).trans hx169_0
            replace hx169_1 := (HB.out.cell (World.block_lt_of_cell? w _ hx169_1)).trans hx169_1
            have HR169_1 := Aside0.mk hi169_1
            have HC169_1 := Aside0.mk hl169_1
            clear hi169_1 hl169_1
            replace p169 := eq_true p169
            replace q169 := eq_true q169
            go_wp2
            go_roundg k1
            case measure => have := HK1.out; omega
            case rel => exact ⟨(wrap64 (x9_1 + 1)), (by first | rfl | (simp; done) | (simp [*]; done)), H', ⟨by have := HK1.out; omega⟩, ⟨by (with_reducible repeat (first | refine blk_drewN ?_ _ | refine blk_drew ?_ | refine blk_alloc ?_ _)); exact BK167.out⟩, ⟨by repeat (first | (with_reducible first | exact HB.out | apply below_alloc | apply pw_below_drewN | apply below_drew1 | refine below_set ?_ GE167.out) | exact HB.out)⟩⟩
          rw [if_pos c15] at H
          have c15b0 : decide (a2 ≤ ((rd_T66 l0_1 x9_1).f0)) = true := decide_eq_true c15
          clear c15
          by_cases c16 : ((rd_T66 l0_1 x9_1).f0) < (wrap64 (a2 + a3))
          · rw [if_pos c16] at H
            have c16b0 : decide (((rd_T66 l0_1 x9_1).f0) < (wrap64 (a2 + a3))) = true := decide_eq_true c16
            clear c16
            obtain rfl := Option.some.inj H
            have hcz17_0 : wr.cell? ⟨gb167, 0, none⟩ = some (.int .u64 a0_0) := (blk_cell BK167.out 0).trans rfl
            have hcz17_1 : wr.cell? ⟨gb167, 1, none⟩ = some (.slice A0_1 l0_1.length c0_1) := (blk_cell BK167.out 1).trans rfl
            have hcz17_2 : wr.cell? ⟨gb167, 2, none⟩ = some (.slice A0_2 l0_2.length c0_2) := (blk_cell BK167.out 2).trans rfl
            have hfz17_0 := blk_frozen BK167.out 0
            have hfz17_1 := blk_frozen BK167.out 1
            have hfz17_2 := blk_frozen BK167.out 2
            have p169 : 0 ≤ (x9_1 : Int) := of_decide_eq_true (by first | (with_reducible assumption) | assumption)
            have q169 : x9_1 < (l0_1.length : Int) := of_decide_eq_true (by first | (with_reducible assumption) | assumption)
            obtain ⟨ad169, A169_1, c169_1, e169, hx169_0, hx169_1, hl169_1, hi169_1⟩ := at_T66 HR0_1.out x9_1 p169 q169
            cases e169
            replace hx169_0 := (HB.out.cell (World.block_lt_of_cell? w _ hx169_0)).trans hx169_0
            replace hx169_1 := (HB.out.cell (World.block_lt_of_cell? w _ hx169_1)).trans hx169_1
            have HR169_1 := Aside0.mk hi169_1
            have HC169_1 := Aside0.mk hl169_1
            clear hi169_1 hl169_1
            replace p169 := eq_true p169
            replace q169 := eq_true q169
            go_wp2
            go_ret
            exact ⟨by first | rfl | (simp [errW_none, errW_some] <;> rfl) | (simp [*, errW_none, errW_some] <;> rfl), by repeat (first | (with_reducible first | exact HB.out | apply below_alloc | apply pw_below_drewN | apply below_drew1 | refine below_set ?_ GE167.out) | exact HB.out)⟩
          rw [if_neg c16] at H
          have c16b0 : decide (((rd_T66 l0_1 x9_1).f0) < (wrap64 (a2 + a3))) = false := decide_eq_false c16
          clear c16
          have H' := Aside0.mk H
          clear H
          have hcz18_0 : wr.cell? ⟨gb167, 0, none⟩ = some (.int .u64 a0_0) := (blk_cell BK167.out 0).trans rfl
          have hcz18_1 : wr.cell? ⟨gb167, 1, none⟩ = some (.slice A0_1 l0_1.length c0_1) := (blk_cell BK167.out 1).trans rfl
          have hcz18_2 : wr.cell? ⟨gb167, 2, none⟩ = some (.slice A0_2 l0_2.length c0_2) := (blk_cell BK167.out 2).trans rfl
          have hfz18_0 := blk_frozen BK167.out 0
          have hfz18_1 := blk_frozen BK167.out 1
          have hfz18_2 := blk_frozen BK167.out 2
          have p169 : 0 ≤ (x9_1 : Int) := of_decide_eq_true (by first | (with_reducible assumption) | assumption)
          have q169 : x9_1 < (l0_1.length : Int) := of_decide_eq_true (by first | (with_reducible assumption) | assumption)
          obtain ⟨ad169, A169_1, c169_1, e169, hx169_0, hx169_1, hl169_1, hi169_1⟩ := at_T66 HR0_1.out x9_1 p169 q169
          cases e169
          replace hx169_0 := (HB.out.cell (World.block_lt_of_cell? w _ hx169_0)).trans hx169_0
          replace hx169_1 := (HB.out.cell (World.block_lt_of_cell? w _ hx169_1)).trans hx169_1
          have HR169_1 := Aside0.mk hi169_1
          have HC169_1 := Aside0.mk hl169_1
          clear hi169_1 hl169_1
          replace p169 := eq_true p169
          replace q169 := eq_true q169
          go_wp2
          go_roundg k1
          case measure => have := HK1.out; omega
          case rel => exact ⟨(wrap64 (x9_1 + 1)), (by first | rfl | (simp; done) | (simp [*]; done)), H', ⟨by have := HK1.out; omega⟩, ⟨by (with_reducible repeat (first | refine blk_drewN ?_ _ | refine blk_drew ?_ | refine blk_alloc ?_ _)); exact BK167.out⟩, ⟨by repeat (first | (with_reducible first | exact HB.out | apply below_alloc | apply pw_below_drewN | apply below_drew1 | refine below_set ?_ GE167.out) | exact HB.out)⟩⟩
        rw [if_neg c11] at H
        have c11b0 : decide (x9_1 < (l0_1.length : Int)) = false := decide_eq_false c11
        clear c11
        obtain ⟨ji20, hji20⟩ : ∃ j_ : Int, (wrap64 (x9_1 - (l0_1.length : Int))) = j_ := ⟨_, rfl⟩
        replace H : (if 0 ≤ (ji20) then (if (ji20) < (l0_2.length : Int) then (if (rd l0_2 (ji20)) ≥ a1 then (some false) else (if (rd l0_2 (ji20)) ≥ a2 then (if (rd l0_2 (ji20)) < (wrap64 (a2 + a3)) then (some false) else (undercroftref04_Fair.l0 k1 a1 a2 a3 (wrap64 (x9_1 + 1)) a0_0 l0_1 l0_2)) else (undercroftref04_Fair.l0 k1 a1 a2 a3 (wrap64 (x9_1 + 1)) a0_0 l0_1 l0_2))) else (none)) else (none)) = some r := by first | (rw [hji20] at H; exact H) | (simp only [hji20] at H ⊢; exact H)
        have hji20w : (IntKind.i64.wrap (x9_1 - (l0_1.length : Int))) = ji20 := (i64_w _).trans hji20
        by_cases c21 : 0 ≤ (ji20)
        rotate_left
        · rw [if_neg c21] at H
          exact absurd H (by simp)
        rw [if_pos c21] at H
        have c21b0 : decide (0 ≤ (ji20)) = true := decide_eq_true c21
        clear c21
        by_cases c22 : (ji20) < (l0_2.length : Int)
        rotate_left
        · rw [if_neg c22] at H
          exact absurd H (by simp)
        rw [if_pos c22] at H
        have c22b0 : decide ((ji20) < (l0_2.length : Int)) = true := decide_eq_true c22
        clear c22
        by_cases c23 : (rd l0_2 (ji20)) ≥ a1
        · rw [if_pos c23] at H
          have c23b0 : decide (a1 ≤ (rd l0_2 (ji20))) = true := decide_eq_true c23
          clear c23
          obtain rfl := Option.some.inj H
          have hcz24_0 : wr.cell? ⟨gb167, 0, none⟩ = some (.int .u64 a0_0) := (blk_cell BK167.out 0).trans rfl
          have hcz24_1 : wr.cell? ⟨gb167, 1, none⟩ = some (.slice A0_1 l0_1.length c0_1) := (blk_cell BK167.out 1).trans rfl
          have hcz24_2 : wr.cell? ⟨gb167, 2, none⟩ = some (.slice A0_2 l0_2.length c0_2) := (blk_cell BK167.out 2).trans rfl
          have hfz24_0 := blk_frozen BK167.out 0
          have hfz24_1 := blk_frozen BK167.out 1
          have hfz24_2 := blk_frozen BK167.out 2
          have p170 : 0 ≤ ((ji20) : Int) := of_decide_eq_true (by first | (with_reducible assumption) | assumption)
          have q170 : (ji20) < (l0_2.length : Int) := of_decide_eq_true (by first | (with_reducible assumption) | assumption)
          obtain ⟨ad170, e170, hx170_0⟩ := Kd.at_int HR0_2.out (ji20) p170 q170
          cases e170
          replace hx170_0 := (HB.out.cell (World.block_lt_of_cell? w _ hx170_0)).trans hx170_0
          replace p170 := eq_true p170
          replace q170 := eq_true q170
          go_wp2
          go_ret
          exact ⟨by first | rfl | (simp [errW_none, errW_some] <;> rfl) | (simp only [← hji20]; first | rfl | (simp [errW_none, errW_some] <;> rfl)) | (simp [*, errW_none, errW_some] <;> rfl), by repeat (first | (with_reducible first | exact HB.out | apply below_alloc | apply pw_below_drewN | apply below_drew1 | refine below_set ?_ GE167.out) | exact HB.out)⟩
        rw [if_neg c23] at H
        have c23b0 : decide (a1 ≤ (rd l0_2 (ji20))) = false := decide_eq_false c23
        clear c23
        by_cases c25 : (rd l0_2 (ji20)) ≥ a2
        rotate_left
        · rw [if_neg c25] at H
          have c25b0 : decide (a2 ≤ (rd l0_2 (ji20))) = false := decide_eq_false c25
          clear c25
          have H' := Aside0.mk H
          clear H
          have hcz29_0 : wr.cell? ⟨gb167, 0, none⟩ = some (.int .u64 a0_0) := (blk_cell BK167.out 0).trans rfl
          have hcz29_1 : wr.cell? ⟨gb167, 1, none⟩ = some (.slice A0_1 l0_1.length c0_1) := (blk_cell BK167.out 1).trans rfl
          have hcz29_2 : wr.cell? ⟨gb167, 2, none⟩ = some (.slice A0_2 l0_2.length c0_2) := (blk_cell BK167.out 2).trans rfl
          have hfz29_0 := blk_frozen BK167.out 0
          have hfz29_1 := blk_frozen BK167.out 1
          have hfz29_2 := blk_frozen BK167.out 2
          have p170 : 0 ≤ ((ji20) : Int) := of_decide_eq_true (by first | (with_reducible assumption) | assumption)
          have q170 : (ji20) < (l0_2.length : Int) := of_decide_eq_true (by first | (with_reducible assumption) | assumption)
          obtain ⟨ad170, e170, hx170_0⟩ := Kd.at_int HR0_2.out (ji20) p170 q170
          cases e170
          replace hx170_0 := (HB.out.cell (World.block_lt_of_cell? w _ hx170_0)).trans hx170_0
          replace p170 := eq_true p170
          replace q170 := eq_true q170
          go_wp2
          go_roundg k1
          case measure => have := HK1.out; omega
          case rel => exact ⟨(wrap64 (x9_1 + 1)), (by first | rfl | (simp; done) | (simp [*]; done)), H', ⟨by have := HK1.out; omega⟩, ⟨by (with_reducible repeat (first | refine blk_drewN ?_ _ | refine blk_drew ?_ | refine blk_alloc ?_ _)); exact BK167.out⟩, ⟨by repeat (first | (with_reducible first | exact HB.out | apply below_alloc | apply pw_below_drewN | apply below_drew1 | refine below_set ?_ GE167.out) | exact HB.out)⟩⟩
        rw [if_pos c25] at H
        have c25b0 : decide (a2 ≤ (rd l0_2 (ji20))) = true := decide_eq_true c25
        clear c25
        by_cases c26 : (rd l0_2 (ji20)) < (wrap64 (a2 + a3))
        · rw [if_pos c26] at H
          have c26b0 : decide ((rd l0_2 (ji20)) < (wrap64 (a2 + a3))) = true := decide_eq_true c26
          clear c26
          obtain rfl := Option.some.inj H
          have hcz27_0 : wr.cell? ⟨gb167, 0, none⟩ = some (.int .u64 a0_0) := (blk_cell BK167.out 0).trans rfl
          have hcz27_1 : wr.cell? ⟨gb167, 1, none⟩ = some (.slice A0_1 l0_1.length c0_1) := (blk_cell BK167.out 1).trans rfl
          have hcz27_2 : wr.cell? ⟨gb167, 2, none⟩ = some (.slice A0_2 l0_2.length c0_2) := (blk_cell BK167.out 2).trans rfl
          have hfz27_0 := blk_frozen BK167.out 0
          have hfz27_1 := blk_frozen BK167.out 1
          have hfz27_2 := blk_frozen BK167.out 2
          have p170 : 0 ≤ ((ji20) : Int) := of_decide_eq_true (by first | (with_reducible assumption) | assumption)
          have q170 : (ji20) < (l0_2.length : Int) := of_decide_eq_true (by first | (with_reducible assumption) | assumption)
          obtain ⟨ad170, e170, hx170_0⟩ := Kd.at_int HR0_2.out (ji20) p170 q170
          cases e170
          replace hx170_0 := (HB.out.cell (World.block_lt_of_cell? w _ hx170_0)).trans hx170_0
          replace p170 := eq_true p170
          replace q170 := eq_true q170
          go_wp2
          go_ret
          exact ⟨by first | rfl | (simp [errW_none, errW_some] <;> rfl) | (simp only [← hji20]; first | rfl | (simp [errW_none, errW_some] <;> rfl)) | (simp [*, errW_none, errW_some] <;> rfl), by repeat (first | (with_reducible first | exact HB.out | apply below_alloc | apply pw_below_drewN | apply below_drew1 | refine below_set ?_ GE167.out) | exact HB.out)⟩
        rw [if_neg c26] at H
        have c26b0 : decide ((rd l0_2 (ji20)) < (wrap64 (a2 + a3))) = false := decide_eq_false c26
        clear c26
        have H' := Aside0.mk H
        clear H
        have hcz28_0 : wr.cell? ⟨gb167, 0, none⟩ = some (.int .u64 a0_0) := (blk_cell BK167.out 0).trans rfl
        have hcz28_1 : wr.cell? ⟨gb167, 1, none⟩ = some (.slice A0_1 l0_1.length c0_1) := (blk_cell BK167.out 1).trans rfl
        have hcz28_2 : wr.cell? ⟨gb167, 2, none⟩ = some (.slice A0_2 l0_2.length c0_2) := (blk_cell BK167.out 2).trans rfl
        have hfz28_0 := blk_frozen BK167.out 0
        have hfz28_1 := blk_frozen BK167.out 1
        have hfz28_2 := blk_frozen BK167.out 2
        have p170 : 0 ≤ ((ji20) : Int) := of_decide_eq_true (by first | (with_reducible assumption) | assumption)
        have q170 : (ji20) < (l0_2.length : Int) := of_decide_eq_true (by first | (with_reducible assumption) | assumption)
        obtain ⟨ad170, e170, hx170_0⟩ := Kd.at_int HR0_2.out (ji20) p170 q170
        cases e170
        replace hx170_0 := (HB.out.cell (World.block_lt_of_cell? w _ hx170_0)).trans hx170_0
        replace p170 := eq_true p170
        replace q170 := eq_true q170
        go_wp2
        go_roundg k1
        case measure => have := HK1.out; omega
        case rel => exact ⟨(wrap64 (x9_1 + 1)), (by first | rfl | (simp; done) | (simp [*]; done)), H', ⟨by have := HK1.out; omega⟩, ⟨by (with_reducible repeat (first | refine blk_drewN ?_ _ | refine blk_drew ?_ | refine blk_alloc ?_ _)); exact BK167.out⟩, ⟨by repeat (first | (with_reducible first | exact HB.out | apply below_alloc | apply pw_below_drewN | apply below_drew1 | refine below_set ?_ GE167.out) | exact HB.out)⟩⟩
  · replace c6 := Bool.eq_false_iff.mpr c6
    subst c6
    have H1 : (some false) = some r := by rw [if_neg (show ¬ (false = true) by decide)] at H; exact H
    clear H
    have H := H1
    clear H1
    obtain rfl := Option.some.inj H
    go_enter Try.func75, Try.ntmps75
    go_wp2_with (first | ((with_reducible refine gate_dst (N := 4) rfl ?_); refine box_event ?hg (N := 4) ?hd (cs := #[.int .u64 a0_0, .slice A0_1 l0_1.length c0_1, .slice A0_2 l0_2.length c0_2]) (t := 60) ?hr ?_; (case hd => rfl); (case hg => rfl); (case hr => go_simp; first | done | rfl); intro gb167 hg w31 hbox hb; have n0_ := Aside0.mk (below_step (by repeat (first | (with_reducible first | exact HB.out | apply below_alloc | apply pw_below_drewN | apply below_drew1) | exact HB.out)) hb); have n1_ := Aside0.mk (hbox); have n2_ := Aside0.mk ((by rw [hg]; exact (below_size (by repeat (first | (with_reducible first | exact HB.out | apply below_alloc | apply pw_below_drewN | apply below_drew1) | exact HB.out))) : w.heap.size ≤ gb167)); have n3_ := Aside0.mk ((by rw [hg]; exact (below_size (by repeat (first | (with_reducible first | exact HB.out | apply below_alloc | apply pw_below_drewN | apply below_drew1) | exact HB.out))) : w.heap.size ≤ gb167)); clear HB; have HB := n0_; have BK167 := n1_; have GW167 := n2_; have GE167 := n3_; clear n0_ n1_ n2_ n3_; clear hb hbox hg; have hcz32_0 : w31.cell? ⟨gb167, 0, none⟩ = some (.int .u64 a0_0) := (blk_cell BK167.out 0).trans rfl; have hcz32_1 : w31.cell? ⟨gb167, 1, none⟩ = some (.slice A0_1 l0_1.length c0_1) := (blk_cell BK167.out 1).trans rfl; have hcz32_2 : w31.cell? ⟨gb167, 2, none⟩ = some (.slice A0_2 l0_2.length c0_2) := (blk_cell BK167.out 2).trans rfl; have hfz32_0 := blk_frozen BK167.out 0; have hfz32_1 := blk_frozen BK167.out 1; have hfz32_2 := blk_frozen BK167.out 2) | ((with_reducible refine gate_callee (f := 83) rfl ?_); refine goesL_ (some 12) rfl rfl Try.func83 (by kernel_rfl) rfl #[.agg #[.int .u64 a0_0, .slice A0_1 l0_1.length c0_1, .slice A0_2 l0_2.length c0_2]] rfl (by (try simp only [List.map_toArray, List.map_cons, List.map_nil]); first | done | rfl | (simp only [List.length_drop, List.length_take]; rfl)) ?_; (with_reducible refine (undercroftref03_May.calls a0_0 _ _ l0_1 _ _ l0_2 false _ ?side1 ?side2 ?side3 ?side4 A5.out).mono ?_); (case side1 => repeat (first | exact (Kd.C_below HR0_1.out HB.out) | (with_reducible refine Kd.C_alloc ?_ _) | (with_reducible refine Kd.C_drewN ?_ _) | (with_reducible refine Kd.C_drew ?_))); (case side2 => exact HC0_1.out); (case side3 => repeat (first | exact (Kd.C_below HR0_2.out HB.out) | (with_reducible refine Kd.C_alloc ?_ _) | (with_reducible refine Kd.C_drewN ?_ _) | (with_reducible refine Kd.C_drew ?_))); (case side4 => exact HC0_2.out); rintro e w33 ⟨rfl, hb⟩; refine ⟨_, rfl, ?_⟩; have n0_ := Aside0.mk (blk_below (g := gb167) (o := .cells #[.int .u64 a0_0, .slice A0_1 l0_1.length c0_1, .slice A0_2 l0_2.length c0_2] 60 (0, 0)) (by (with_reducible repeat (first | refine blk_drewN ?_ _ | refine blk_drew ?_ | refine blk_alloc ?_ _)); exact BK167.out) hb); have n1_ := Aside0.mk (below_step (by repeat (first | (with_reducible first | exact HB.out | apply below_alloc | apply pw_below_drewN | apply below_drew1 | refine below_set ?_ GE167.out) | exact HB.out)) hb); clear BK167; clear HB; have BK167 := n0_; have HB := n1_; clear n0_ n1_; (try clear hb); (try clear hb2); (try clear hk); (try clear hi)))
    go_ret
    exact ⟨by first | rfl | (simp [errW_none, errW_some] <;> rfl) | (simp [*, errW_none, errW_some] <;> rfl), by repeat (first | (with_reducible first | exact HB.out | apply below_alloc | apply pw_below_drewN | apply below_drew1 | refine below_set ?_ GE167.out) | exact HB.out)⟩
end Go.Proofs.Ytlbfpjhnpnbikaa.U
