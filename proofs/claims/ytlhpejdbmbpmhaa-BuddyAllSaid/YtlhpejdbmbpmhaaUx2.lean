/- Written by uprint.py (ours) for this seat: functions of the translation as Lean functions, and what their calls do. Not trusted: Lean checks it. -/
import Derived.Test.YtlhpejdbmbpmhaaUx0
namespace Go.Proofs.Ytlhpejdbmbpmhaa.U
open Go.RowKit Go.Proofs.YtlhpejdbmbpmhaaW.PrintWords Go.Proofs.YtlhpejdbmbpmhaaW.PrintLast Go.Proofs.YtlhpejdbmbpmhaaW.PrintMore
attribute [local go_sem] max2_int min2_int max_two min_two max_three min_three max_four min_four   -- for this text's walks alone
set_option linter.unusedVariables false
set_option linter.unusedSimpArgs false

/-! ### buddy_newPool: function 21 -/
def buddy_newPool.f (l0 : List Int) (a1 : Int) : Option (List Int × Int × Int) := if a1 < 0 then (some (([] : List Int), 0, 1)) else (if a1 > (wrap64 (8 * (l0.length : Int))) then (some (([] : List Int), 0, 1)) else (some (l0, a1, 0)))
set_option maxHeartbeats 8000000 in
set_option maxRecDepth 100000 in
theorem buddy_newPool.calls (P0_ : Nat → Prop) (A0 : Option Addr) (c0 : Nat) (l0 : List Int) (a1 : Int) (r1 : List Int) (r2 : Int) (r3 : Int) (w : World) (hs0 : Kd.V (Kd.int .u8) 5 w w.heap.size (fun k_ => P0_ k_) (.slice A0 l0.length c0) l0) (h : buddy_newPool.f l0 a1 = some (r1, r2, r3)) :
    Calls Try.prog 21 #[.slice A0 l0.length c0, .int .i64 a1] w fun e w' => ∃ v0_ : Value, e = .returned (.tuple #[.agg #[v0_, .int .i64 r2], .int .i64 r3]) ∧ Kd.V (Kd.int .u8) 5 w' w.heap.size (fun k_ => (P0_ k_ ∨ w.heap.size ≤ k_)) v0_ r1 ∧ Below w.heap.size w w' := by
  have hu45 := Try.underlying45
  have HO0 := Aside0.mk (show Kd.V (Kd.int .u8) 5 w w.heap.size (fun k_ => (P0_ k_ ∨ w.heap.size ≤ k_)) (.slice A0 l0.length c0) l0 from Kd.V_mono hs0 (fun k_ hk => .inl hk))
  have HB := Aside0.mk (Below.refl w.heap.size w)
  have H : (if a1 < 0 then (some (([] : List Int), 0, 1)) else (if a1 > (wrap64 (8 * (l0.length : Int))) then (some (([] : List Int), 0, 1)) else (some (l0, a1, 0)))) = some (r1, r2, r3) := h
  clear h
  by_cases c3 : a1 < 0
  · rw [if_pos c3] at H
    have c3b0 : decide (a1 < 0) = true := decide_eq_true c3
    clear c3
    simp only [Option.some.injEq, Prod.mk.injEq] at H
    obtain ⟨rfl, rfl, rfl⟩ := H
    go_enter Try.func21, Try.ntmps21
    go_wp2_with (first | ((with_reducible refine gate_dst (N := 4) rfl ?_); (try (refine gate_guard (by rfl) ?_; dsimp only)); refine box_event ?hg (N := 4) ?hd (cs := #[.slice none 0 0, .int .i64 0]) (t := 45) ?hr ?_; (case hd => rfl); (case hg => rfl); (case hr => go_simp; first | done | rfl); intro gb101 hg w4 hbox hb; have n0_ := Aside0.mk (Kd.V_below (Kd.V_elderB (by (with_reducible repeat (first | apply Kd.V_alloc | apply Kd.V_drewN | apply Kd.V_drew)); exact HO0.out) gb101 (Nat.le_of_eq hg.symm)) hb); have n1_ := Aside0.mk (below_step (by repeat (first | (with_reducible first | exact HB.out | apply below_alloc | apply pw_below_drewN | apply below_drew1) | exact HB.out)) hb); have n2_ := Aside0.mk (hbox); have n3_ := Aside0.mk ((by rw [hg]; exact (below_size (by repeat (first | (with_reducible first | exact HB.out | apply below_alloc | apply pw_below_drewN | apply below_drew1) | exact HB.out))) : w.heap.size ≤ gb101)); have n4_ := Aside0.mk ((by rw [hg]; exact (below_size (by repeat (first | (with_reducible first | exact HB.out | apply below_alloc | apply pw_below_drewN | apply below_drew1) | exact HB.out))) : w.heap.size ≤ gb101)); clear HO0; clear HB; have HO0 := n0_; have HB := n1_; have BK101 := n2_; have GW101 := n3_; have GE101 := n4_; clear n0_ n1_ n2_ n3_ n4_; clear hb hbox hg; have hcz5_0 : w4.cell? ⟨gb101, 0, none⟩ = some (.slice none 0 0) := (blk_cell BK101.out 0).trans rfl; have hcz5_1 : w4.cell? ⟨gb101, 1, none⟩ = some (.int .i64 0) := (blk_cell BK101.out 1).trans rfl; have hfz5_0 := blk_frozen BK101.out 0; have hfz5_1 := blk_frozen BK101.out 1))
    refine bodyPost_ret (results_ct rfl _ _ gb101 45 #[.slice none 0 0, .int .i64 0] (0, 0) _ rfl (by (with_reducible repeat (first | refine blk_drewN ?_ _ | refine blk_drew ?_ | refine blk_alloc ?_ _)); refine blk_put (cs := #[.slice none 0 0, .int .i64 0]) ?_ 1 _ rfl; (with_reducible repeat (first | refine blk_drewN ?_ _ | refine blk_drew ?_ | refine blk_alloc ?_ _)); refine blk_put (cs := #[.slice none 0 0, .int .i64 0]) ?_ 0 _ rfl; (with_reducible repeat (first | refine blk_drewN ?_ _ | refine blk_drew ?_ | refine blk_alloc ?_ _)); exact BK101.out) Try.underlying45 rfl (by kernel_rfl)) rfl ?_
    exact ⟨_, by first | rfl | (simp [errW_none, errW_some] <;> rfl) | (simp [*, errW_none, errW_some] <;> rfl), Kd.V_nil _ _ _ _ _, by repeat (first | (with_reducible first | exact HB.out | apply below_alloc | apply pw_below_drewN | apply below_drew1 | refine below_set ?_ GE101.out) | exact HB.out)⟩
  · rw [if_neg c3] at H
    have c3b0 : decide (a1 < 0) = false := decide_eq_false c3
    clear c3
    by_cases c6 : a1 > (wrap64 (8 * (l0.length : Int)))
    · rw [if_pos c6] at H
      have c6b0 : decide ((wrap64 (8 * (l0.length : Int))) < a1) = true := decide_eq_true c6
      clear c6
      simp only [Option.some.injEq, Prod.mk.injEq] at H
      obtain ⟨rfl, rfl, rfl⟩ := H
      go_enter Try.func21, Try.ntmps21
      go_wp2_with (first | ((with_reducible refine gate_dst (N := 4) rfl ?_); (try (refine gate_guard (by rfl) ?_; dsimp only)); refine box_event ?hg (N := 4) ?hd (cs := #[.slice none 0 0, .int .i64 0]) (t := 45) ?hr ?_; (case hd => rfl); (case hg => rfl); (case hr => go_simp; first | done | rfl); intro gb101 hg w7 hbox hb; have n0_ := Aside0.mk (Kd.V_below (Kd.V_elderB (by (with_reducible repeat (first | apply Kd.V_alloc | apply Kd.V_drewN | apply Kd.V_drew)); exact HO0.out) gb101 (Nat.le_of_eq hg.symm)) hb); have n1_ := Aside0.mk (below_step (by repeat (first | (with_reducible first | exact HB.out | apply below_alloc | apply pw_below_drewN | apply below_drew1) | exact HB.out)) hb); have n2_ := Aside0.mk (hbox); have n3_ := Aside0.mk ((by rw [hg]; exact (below_size (by repeat (first | (with_reducible first | exact HB.out | apply below_alloc | apply pw_below_drewN | apply below_drew1) | exact HB.out))) : w.heap.size ≤ gb101)); have n4_ := Aside0.mk ((by rw [hg]; exact (below_size (by repeat (first | (with_reducible first | exact HB.out | apply below_alloc | apply pw_below_drewN | apply below_drew1) | exact HB.out))) : w.heap.size ≤ gb101)); clear HO0; clear HB; have HO0 := n0_; have HB := n1_; have BK101 := n2_; have GW101 := n3_; have GE101 := n4_; clear n0_ n1_ n2_ n3_ n4_; clear hb hbox hg; have hcz8_0 : w7.cell? ⟨gb101, 0, none⟩ = some (.slice none 0 0) := (blk_cell BK101.out 0).trans rfl; have hcz8_1 : w7.cell? ⟨gb101, 1, none⟩ = some (.int .i64 0) := (blk_cell BK101.out 1).trans rfl; have hfz8_0 := blk_frozen BK101.out 0; have hfz8_1 := blk_frozen BK101.out 1))
      refine bodyPost_ret (results_ct rfl _ _ gb101 45 #[.slice none 0 0, .int .i64 0] (0, 0) _ rfl (by (with_reducible repeat (first | refine blk_drewN ?_ _ | refine blk_drew ?_ | refine blk_alloc ?_ _)); refine blk_put (cs := #[.slice none 0 0, .int .i64 0]) ?_ 1 _ rfl; (with_reducible repeat (first | refine blk_drewN ?_ _ | refine blk_drew ?_ | refine blk_alloc ?_ _)); refine blk_put (cs := #[.slice none 0 0, .int .i64 0]) ?_ 0 _ rfl; (with_reducible repeat (first | refine blk_drewN ?_ _ | refine blk_drew ?_ | refine blk_alloc ?_ _)); exact BK101.out) Try.underlying45 rfl (by kernel_rfl)) rfl ?_
      exact ⟨_, by first | rfl | (simp [errW_none, errW_some] <;> rfl) | (simp [*, errW_none, errW_some] <;> rfl), Kd.V_nil _ _ _ _ _, by repeat (first | (with_reducible first | exact HB.out | apply below_alloc | apply pw_below_drewN | apply below_drew1 | refine below_set ?_ GE101.out) | exact HB.out)⟩
    · rw [if_neg c6] at H
      have c6b0 : decide ((wrap64 (8 * (l0.length : Int))) < a1) = false := decide_eq_false c6
      clear c6
      simp only [Option.some.injEq, Prod.mk.injEq] at H
      obtain ⟨rfl, rfl, rfl⟩ := H
      go_enter Try.func21, Try.ntmps21
      go_wp2_with (first | ((with_reducible refine gate_dst (N := 4) rfl ?_); (try (refine gate_guard (by rfl) ?_; dsimp only)); refine box_event ?hg (N := 4) ?hd (cs := #[.slice none 0 0, .int .i64 0]) (t := 45) ?hr ?_; (case hd => rfl); (case hg => rfl); (case hr => go_simp; first | done | rfl); intro gb101 hg w9 hbox hb; have n0_ := Aside0.mk (Kd.V_below (Kd.V_elderB (by (with_reducible repeat (first | apply Kd.V_alloc | apply Kd.V_drewN | apply Kd.V_drew)); exact HO0.out) gb101 (Nat.le_of_eq hg.symm)) hb); have n1_ := Aside0.mk (below_step (by repeat (first | (with_reducible first | exact HB.out | apply below_alloc | apply pw_below_drewN | apply below_drew1) | exact HB.out)) hb); have n2_ := Aside0.mk (hbox); have n3_ := Aside0.mk ((by rw [hg]; exact (below_size (by repeat (first | (with_reducible first | exact HB.out | apply below_alloc | apply pw_below_drewN | apply below_drew1) | exact HB.out))) : w.heap.size ≤ gb101)); have n4_ := Aside0.mk ((by rw [hg]; exact (below_size (by repeat (first | (with_reducible first | exact HB.out | apply below_alloc | apply pw_below_drewN | apply below_drew1) | exact HB.out))) : w.heap.size ≤ gb101)); clear HO0; clear HB; have HO0 := n0_; have HB := n1_; have BK101 := n2_; have GW101 := n3_; have GE101 := n4_; clear n0_ n1_ n2_ n3_ n4_; clear hb hbox hg; have hcz10_0 : w9.cell? ⟨gb101, 0, none⟩ = some (.slice none 0 0) := (blk_cell BK101.out 0).trans rfl; have hcz10_1 : w9.cell? ⟨gb101, 1, none⟩ = some (.int .i64 0) := (blk_cell BK101.out 1).trans rfl; have hfz10_0 := blk_frozen BK101.out 0; have hfz10_1 := blk_frozen BK101.out 1))
      refine bodyPost_ret (results_ct rfl _ _ gb101 45 #[.slice A0 l0.length c0, .int .i64 a1] (0, 0) _ rfl (by (with_reducible repeat (first | refine blk_drewN ?_ _ | refine blk_drew ?_ | refine blk_alloc ?_ _)); refine blk_put (cs := #[.slice A0 l0.length c0, .int .i64 0]) ?_ 1 _ rfl; (with_reducible repeat (first | refine blk_drewN ?_ _ | refine blk_drew ?_ | refine blk_alloc ?_ _)); refine blk_put (cs := #[.slice none 0 0, .int .i64 0]) ?_ 0 _ rfl; (with_reducible repeat (first | refine blk_drewN ?_ _ | refine blk_drew ?_ | refine blk_alloc ?_ _)); exact BK101.out) Try.underlying45 rfl (by kernel_rfl)) rfl ?_
      exact ⟨_, by first | rfl | (simp [errW_none, errW_some] <;> rfl) | (simp [*, errW_none, errW_some] <;> rfl), by (with_reducible repeat (first | apply Kd.V_alloc | apply Kd.V_drewN | apply Kd.V_drew)); exact Kd.V_mono (Kd.V_far (p := ⟨gb101, 1, none⟩) (Kd.V_far (p := ⟨gb101, 0, none⟩) (Kd.V_mono HO0.out (fun k_ hk => (⟨hk, hk.2⟩ : _ ∧ k_ ≠ gb101))) (fun _ hk => hk.2) (.slice A0 l0.length c0)) (fun _ hk => hk.2) (.int .i64 a1)) (fun _ hk => hk.1.1), by repeat (first | (with_reducible first | exact HB.out | apply below_alloc | apply pw_below_drewN | apply below_drew1 | refine below_set ?_ GE101.out) | exact HB.out)⟩

-- NOT PRINTED: function 34 (bits_Len32)

/-! ### bits_Len64: function 35 (given) -/
def len8 (n : Nat) : Nat := if n = 0 then 0 else Nat.log2 n + 1
def bits_Len64.f (a0 : Int) : Option Int := if 0 ≤ a0 ∧ a0 < 256 then some (len8 a0.toNat : Int) else none
set_option maxHeartbeats 400000 in
set_option maxRecDepth 100000 in
theorem bits_Len64.calls (a0 : Int) (r : Int) (w : World) (h : bits_Len64.f a0 = some r) :
    Calls Try.prog 35 #[.int .u64 a0] w fun e w' => e = .returned (.int .i64 r) ∧ Drawn0 w w' := by
  unfold bits_Len64.f at h
  by_cases hb : 0 ≤ a0 ∧ a0 < 256
  rotate_left
  · rw [if_neg hb] at h
    cases h
  rw [if_pos hb] at h
  have HR := Aside0.mk h
  clear h
  obtain ⟨h0, h1⟩ := hb
  go_enter Try.func35, Try.ntmps35
  go_wp2
  go_ret
  obtain rfl := Option.some.inj HR.out
  refine ⟨congrArg (fun z => Ending.returned (.int .i64 z)) ?_, by repeat (first | exact Drawn0.refl _ | apply Drawn0.step)⟩
  clear HR
  obtain ⟨n, rfl⟩ := X.byte_fin h0 h1
  revert h0 h1
  revert n
  decide +kernel

/-! ### bits_Len: function 22 -/
def bits_Len.f (a0 : Int) : Option (Int) := (bits_Len64.f a0).bind fun t102 => (some t102)
set_option maxHeartbeats 8000000 in
set_option maxRecDepth 100000 in
theorem bits_Len.calls (a0 : Int) (r : Int) (w : World) (h : bits_Len.f a0 = some r) :
    Calls Try.prog 22 #[.int .u64 a0] w fun e w' => e = .returned (.int .i64 r) ∧ Drawn0 w w' := by
  have H : ((bits_Len64.f a0).bind fun t102 => (some t102)) = some r := h
  clear h
  replace H := Option.bind_eq_some_iff.mp H
  obtain ⟨t102, A20, H⟩ := H
  replace H : (some t102) = some r := H
  have A2 := Aside0.mk A20
  clear A20
  obtain rfl := Option.some.inj H
  go_enter Try.func22, Try.ntmps22
  go_wp2_with (first | ((with_reducible refine gate_callee (f := 35) rfl ?_); refine goesL_ (some 7) rfl rfl Try.func35 (by kernel_rfl) rfl #[.int .u64 a0] rfl (by (try simp only [List.map_toArray, List.map_cons, List.map_nil]); first | done | rfl | (simp only [List.length_drop, List.length_take]; rfl)) ?_; (with_reducible refine (bits_Len64.calls a0 t102 _ A2.out).mono ?_); rintro e w' ⟨rfl, ⟨nd, rfl⟩⟩; refine ⟨_, rfl, ?_⟩))
  go_ret
  exact ⟨by first | rfl | (simp; done) | (simp [*]; done), by repeat (first | exact Drawn0.refl _ | apply Drawn0.step)⟩

/-! ### bits_clip: function 42 -/
def bits_clip.f (l0 : List Int) (a1 : Int) (a2 : Int) : Option (Int × Int) := some (mx a1 0, mn a2 (wrap64 (8 * (l0.length : Int))))
set_option maxHeartbeats 8000000 in
set_option maxRecDepth 100000 in
theorem bits_clip.calls (A0 : Option Addr) (c0 : Nat) (l0 : List Int) (a1 : Int) (a2 : Int) (r1 : Int) (r2 : Int) (w : World) (hr0 : Kd.C (Kd.int .u8) w A0 l0.length l0) (hc0 : l0.length ≤ c0) (h : bits_clip.f l0 a1 a2 = some (r1, r2)) :
    Calls Try.prog 42 #[.slice A0 l0.length c0, .int .i64 a1, .int .i64 a2] w fun e w' => e = .returned (.tuple #[.int .i64 r1, .int .i64 r2]) ∧ Below w.heap.size w w' := by
  have HR0 := Aside0.mk hr0
  have HC0 := Aside0.mk hc0
  clear hr0 hc0
  have HB := Aside0.mk (Below.refl w.heap.size w)
  have H : (some (mx a1 0, mn a2 (wrap64 (8 * (l0.length : Int))))) = some (r1, r2) := h
  clear h
  obtain ⟨ji4, hji4⟩ : ∃ j_ : Int, (mx a1 0) = j_ := ⟨_, rfl⟩
  replace H : (some (ji4, mn a2 (wrap64 (8 * (l0.length : Int))))) = some (r1, r2) := by first | (rw [hji4] at H; exact H) | (simp only [hji4] at H ⊢; exact H)
  (try (have hji4l : 0 ≤ ji4 := by (rw [← hji4]; unfold mx; (repeat' split) <;> omega)))
  (try (have hji4m : 0 ≤ ji4 := by omega))
  have hji4_ : (if a1 < 0 then 0 else a1) = ji4 := hji4
  obtain ⟨ji5, hji5⟩ : ∃ j_ : Int, (mn a2 (wrap64 (8 * (l0.length : Int)))) = j_ := ⟨_, rfl⟩
  replace H : (some (ji4, ji5)) = some (r1, r2) := by first | (rw [hji5] at H; exact H) | (simp only [hji5] at H ⊢; exact H)
  have hji5_ : (if (wrap64 (8 * (l0.length : Int))) < a2 then (wrap64 (8 * (l0.length : Int))) else a2) = ji5 := hji5
  simp only [Option.some.injEq, Prod.mk.injEq] at H
  obtain ⟨rfl, rfl⟩ := H
  go_enter Try.func42, Try.ntmps42
  go_wp2
  go_ret2
  exact ⟨by first | rfl | (simp [errW_none, errW_some] <;> rfl) | (simp only [← hji4, ← hji5]; first | rfl | (simp [errW_none, errW_some] <;> rfl)) | (simp [*, errW_none, errW_some] <;> rfl), by repeat (first | (with_reducible first | exact HB.out | apply below_alloc | apply pw_below_drewN | apply below_drew1) | exact HB.out)⟩

-- GIVEN: function 37 (undercroft/bits.each)
/-- Where a round ends that begins at f; its mask. -/
def bits_each.fin (b f : Int) : Int := if b ≤ 8 * (f / 8 + 1) then b else 8 * (f / 8 + 1)
def bits_each.mask (b f : Int) : Int := Go.bits .and .u8 (255 * 2 ^ (f % 8).toNat % 256) (255 / 2 ^ (8 * (f / 8 + 1) - bits_each.fin b f).toNat)
section
attribute [local go_sem] Oper.semAt_some
set_option maxHeartbeats 1000000 in
set_option maxRecDepth 100000 in
theorem bits_each.seq (n : Nat) (hn : 1 ≤ n) (a b : Int) (Bf Bt : Nat) (hne : Bf ≠ Bt) (ha : 0 ≤ a) (hb : b ≤ 1152921504606846976) (w0 : World) (hf0 : X.Blk w0 Bf #[.int .i64 a] 3) (ht0 : X.Blk w0 Bt #[.int .i64 b] 3) :
    X.BoxSeq Fence.wide n Try.prog 43 #[.pointer (some ⟨Bf, 0, none⟩), .pointer (some ⟨Bt, 0, none⟩)] (fun f : Int => #[.int .i64 (f / 8), .int .u8 (bits_each.mask b f)]) (bits_each.fin b) (fun f => 0 ≤ f ∧ f < b) (fun f => b ≤ f) a Bf (fun x => x = Bf ∨ x = Bt) w0 := by
  intro l J Jx W hJ hJx hY hJ0 hk0
  have hbf : X.Blk W Bf #[.int .i64 a] 3 := (hk0 Bf (Or.inl rfl)).trans hf0
  have hbt : X.Blk W Bt #[.int .i64 b] 3 := (hk0 Bt (Or.inr rfl)).trans ht0
  clear hf0 ht0 hk0
  refine callsIn_of_wp Try.func43 rfl trivial ?_ rfl
  simp only [Try.ntmps43, List.size_toArray, List.length_cons, List.length_nil, Nat.reduceAdd, Nat.reduceSub, Array.replicate_succ, Array.replicate_zero, List.push_toArray, List.append_toArray, List.nil_append, List.cons_append]
  gi_wp2
  gi_loopw [] (fun wr => ∃ f : Int, 0 ≤ f ∧ X.Blk wr Bf #[.int .i64 f] 3 ∧ X.Blk wr Bt #[.int .i64 b] 3 ∧ J f wr) (fun wr => (b - X.boxed Bf wr).toNat)
  case atStart => exact ⟨a, ha, hbf, hbt, hJ0⟩
  case round =>
    obtain ⟨f, h0, hF, hT, hj⟩ := hrel
    have hmx : Try.prog.follows .mixedOrders = true := by kernel_rfl
    have hc := hF.cell 0 (.int .i64 f) rfl
    have hcf := hF.free 0
    have hct := hT.cell 0 (.int .i64 b) rfl
    have hM := X.boxed_blk hF
    have HF := Aside0.mk hF
    have HT := Aside0.mk hT
    have HJ := Aside0.mk hj
    have HJS := Aside0.mk hJ
    have HM := Aside0.mk hM
    clear hF hT hj hJ hM hbf hbt hJ0 hJx
    by_cases hlt : f < b
    · have e7 : Go.bits .and .i64 f 7 = f % 8 := X.and7 h0 (by omega)
      have h7 : 0 ≤ f % 8 := by omega
      have e1 : IntKind.i64.wrap (f / 8 + 1) = f / 8 + 1 := X.i64_wrap (by omega) (by omega)
      have e2 : IntKind.i64.wrap (8 * (f / 8 + 1)) = 8 * (f / 8 + 1) := X.i64_wrap (by omega) (by omega)
      have e4 : IntKind.i64.wrap 0 = 0 := rfl
      obtain ⟨fn, tmps, assign, body, hy, hR⟩ := hY f wr.drew ⟨h0, hlt⟩ (HJS.out _ _ _ HJ.out (X.Same.drew _ _ _))
      have HR := Aside0.mk hR
      clear hY hR
      have go : ∀ X' : World, (∀ x, x = Bf ∨ x = Bt → X'.heap[x]? = wr.drew.heap[x]?) → J (bits_each.fin b f) X' → X.Blk X' Bf #[.int .i64 f] 3 ∧
          (∃ g : Int, 0 ≤ g ∧ X.Blk (X'.setCell ⟨Bf, 0, none⟩ (.int .i64 (bits_each.fin b f))) Bf #[.int .i64 g] 3 ∧ X.Blk (X'.setCell ⟨Bf, 0, none⟩ (.int .i64 (bits_each.fin b f))) Bt #[.int .i64 b] 3 ∧ J g (X'.setCell ⟨Bf, 0, none⟩ (.int .i64 (bits_each.fin b f)))) ∧
          (b - X.boxed Bf (X'.setCell ⟨Bf, 0, none⟩ (.int .i64 (bits_each.fin b f)))).toNat < (b - X.boxed Bf wr).toNat := by
        intro X' hk hj'
        have hF' : X.Blk X' Bf #[.int .i64 f] 3 := (hk Bf (Or.inl rfl)).trans HF.out
        have hT' : X.Blk X' Bt #[.int .i64 b] 3 := (hk Bt (Or.inr rfl)).trans HT.out
        have hS := hF'.set 0 (.int .i64 (bits_each.fin b f))
        have hg : f < bits_each.fin b f ∧ bits_each.fin b f ≤ b := by unfold bits_each.fin; split <;> omega
        refine ⟨hF', ⟨bits_each.fin b f, by omega, hS, ((X.Same.setCell (Bt + 1) Bf X' 0 _).block Bt (by omega) (Ne.symm hne)).trans hT', HJS.out _ _ _ hj' (X.Same.setCell _ _ _ _ _)⟩, ?_⟩
        rw [HM.out, X.boxed_blk hS]
        omega
      have HG := Aside0.mk go
      clear go
      by_cases hle : b ≤ 8 * (f / 8 + 1)
      · have e3 : IntKind.i64.wrap (8 * (f / 8 + 1) - b) = 8 * (f / 8 + 1) - b := X.i64_wrap (by omega) (by omega)
        have h3 : 0 ≤ 8 * (f / 8 + 1) - b := by omega
        have ef : bits_each.fin b f = b := if_pos hle
        have em : bits_each.mask b f = Go.bits .and .u8 (255 * 2 ^ (f % 8).toNat % 256) (255 / 2 ^ (8 * (f / 8 + 1) - b).toNat) := by unfold bits_each.mask; rw [ef]
        rw [em] at hy
        have EF := Aside0.mk ef
        clear ef em
        gi_wp2
        gi_region_with_o (fail)
        gi_wp2
        refine HR.out.mono ?_
        rintro e X' (⟨rfl, hk, hj'⟩ | ⟨rfl, hk, hj'⟩)
        · obtain ⟨hF', hrel', hms⟩ := HG.out X' hk hj'
          have hc' := hF'.cell 0 (.int .i64 f) rfl
          have hcf' := hF'.free 0
          rw [EF.out] at hrel' hms
          have HREL := Aside0.mk hrel'
          have HMS := Aside0.mk hms
          clear hrel' hms hF' hk hj' hy hc hcf hct e1 e2 e3 e4 e7
          gi_wp2
          go_roundw
          case rel => exact HREL.out
          case measure => exact HMS.out
        · clear hy
          gi_wp2
          refine bodyPost_ret (results_none rfl _ _ _) rfl ?_
          exact ⟨⟨_, rfl⟩, .inr hj'⟩
      · have e3 : (8 * (f / 8 + 1) - 8 * (f / 8 + 1)) = 0 := by omega
        have ef : bits_each.fin b f = 8 * (f / 8 + 1) := if_neg hle
        have em : bits_each.mask b f = Go.bits .and .u8 (255 * 2 ^ (f % 8).toNat % 256) 255 := by unfold bits_each.mask; rw [ef, e3]; rfl
        rw [em] at hy
        have EF := Aside0.mk ef
        clear ef em e3
        gi_wp2
        gi_region_with_o (fail)
        gi_wp2
        refine HR.out.mono ?_
        rintro e X' (⟨rfl, hk, hj'⟩ | ⟨rfl, hk, hj'⟩)
        · obtain ⟨hF', hrel', hms⟩ := HG.out X' hk hj'
          have hc' := hF'.cell 0 (.int .i64 f) rfl
          have hcf' := hF'.free 0
          rw [EF.out] at hrel' hms
          have HREL := Aside0.mk hrel'
          have HMS := Aside0.mk hms
          clear hrel' hms hF' hk hj' hy hc hcf hct e1 e2 e4 e7
          gi_wp2
          go_roundw
          case rel => exact HREL.out
          case measure => exact HMS.out
        · clear hy
          gi_wp2
          refine bodyPost_ret (results_none rfl _ _ _) rfl ?_
          exact ⟨⟨_, rfl⟩, .inr hj'⟩
    · gi_wp2
      go_end0
      exact ⟨⟨_, rfl⟩, .inl ⟨f, by omega, HJ.out⟩⟩
end
/-- 'each' hands back the iterator with two boxes of its own. -/
theorem bits_each.calls (A0 : Option Addr) (c0 : Nat) (l0 : List Int) (a1 a2 : Int) (w : World) (hr0 : Kd.C (Kd.int .u8) w A0 l0.length l0) (hc0 : l0.length ≤ c0) :
    Calls Try.prog 37 #[.slice A0 l0.length c0, .int .i64 a1, .int .i64 a2] w fun e w' => ∃ Bf Bt : Nat, e = .returned (.func (.func 43) #[] #[.pointer (some ⟨Bf, 0, none⟩), .pointer (some ⟨Bt, 0, none⟩)]) ∧
      X.Blk w' Bf #[.int .i64 (mx a1 0)] 3 ∧ X.Blk w' Bt #[.int .i64 (mn a2 (wrap64 (8 * (l0.length : Int))))] 3 ∧ Bf ≠ Bt ∧ w.heap.size ≤ Bf ∧ w.heap.size ≤ Bt ∧ Below w.heap.size w w' := by
  have HR0 := Aside0.mk hr0
  have HC0 := Aside0.mk hc0
  clear hr0 hc0
  have hM := X.Blk.new w #[.int .i64 a1] 3
  have h1 : X.Blk ((w.alloc (.cells #[.int .i64 a1] 3 (0, 0))).alloc (.cells #[.int .i64 a2] 3 (0, 0))) w.heap.size #[.int .i64 a1] 3 := hM.alloc _
  have h2 : X.Blk ((w.alloc (.cells #[.int .i64 a1] 3 (0, 0))).alloc (.cells #[.int .i64 a2] 3 (0, 0))) (w.heap.size + 1) #[.int .i64 a2] 3 := by
    have := X.Blk.new (w.alloc (.cells #[.int .i64 a1] 3 (0, 0))) #[.int .i64 a2] 3
    rwa [World.size_alloc] at this
  have H1 := Aside0.mk h1
  have H2 := Aside0.mk h2
  clear hM h1 h2
  go_enter Try.func37, Try.ntmps37
  go_wp2_with fail
  refine (bits_clip.calls A0 c0 l0 a1 a2 (mx a1 0) (mn a2 (wrap64 (8 * (l0.length : Int)))) _ (Kd.C_alloc (Kd.C_alloc HR0.out _) _) HC0.out rfl).mono ?_
  rintro e w1 ⟨rfl, hb⟩
  have hF := H1.out.below hb H1.out.lt
  have hT := H2.out.below hb H2.out.lt
  have hB : Below w.heap.size w w1 := (((Below.refl _ w).alloc (Nat.le_refl _) (.cells #[.int .i64 a1] 3 (0, 0))).alloc (by simp) (.cells #[.int .i64 a2] 3 (0, 0))).trans (hb.mono (by simp; omega))
  clear hb
  have c1 := hF.cell 0 (.int .i64 a1) rfl
  have f1 := hF.free 0
  have c2 := hT.cell 0 (.int .i64 a2) rfl
  have f2 := hT.free 0
  have HF := Aside0.mk hF
  have HT := Aside0.mk hT
  have HB := Aside0.mk hB
  clear hF hT hB
  go_wp2
  go_ret
  exact ⟨w.heap.size, w.heap.size + 1, rfl, (HF.out.set 0 _).other (by omega) 0 _, (HT.out.other (by omega) 0 _).set 0 _, by omega, Nat.le_refl _, by omega, (HB.out.setCell (p := ⟨w.heap.size, 0, none⟩) (Nat.le_refl _) _).setCell (p := ⟨w.heap.size + 1, 0, none⟩) (by simp) _⟩

end Go.Proofs.Ytlhpejdbmbpmhaa.U
