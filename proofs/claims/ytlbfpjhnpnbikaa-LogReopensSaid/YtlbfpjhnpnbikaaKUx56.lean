/- Ux56: what this claim uses. Laid by slim.py (ours). -/
import Derived.Test.YtlbfpjhnpnbikaaKUx0
import Derived.Test.YtlbfpjhnpnbikaaKUx55
namespace Go.Proofs.Ytlbfpjhnpnbikaa.U
open Go.RowKit Go.Proofs.YtlbfpjhnpnbikaaW.PrintWords Go.Proofs.YtlbfpjhnpnbikaaW.PrintLast Go.Proofs.YtlbfpjhnpnbikaaW.PrintMore
attribute [local go_sem] max2_int min2_int max_two min_two max_three min_three max_four min_four
set_option linter.unusedVariables false
set_option linter.unusedSimpArgs false
def undercroftref03_Same.l0 : Nat → Int → Int → List (S66) → List Int → Int → List (S66) → List Int → Option (Bool)
  | 0, _, _, _, _, _, _, _ => none
  | k + 1, x5, x269000, x269001, x269002, x270000, x270001, x270002 => if x5 < (x269001.length : Int) then (if 0 ≤ x5 then (if x5 < (x270001.length : Int) then (if ((rd_T66 x269001 x5).f0) = ((rd_T66 x270001 x5).f0) then (if (strOfNums ((rd_T66 x269001 x5).f1)).toList = (strOfNums ((rd_T66 x270001 x5).f1)).toList then (undercroftref03_Same.l0 k (wrap64 (x5 + 1)) x269000 x269001 x269002 x270000 x270001 x270002) else (some false)) else (some false)) else (none)) else (none)) else (some true)
def undercroftref03_Same.j0 : Nat → Bool → Int → List (S66) → List Int → Int → List (S66) → List Int → Option (Bool)
  | 0, _, _, _, _, _, _, _ => none
  | k + 1, x27, x269000, x269001, x269002, x270000, x270001, x270002 => if x27 = true then (some false) else (undercroftref03_Same.l0 k 0 x269000 x269001 x269002 x270000 x270001 x270002)
def undercroftref03_Same.f (k : Nat) (a0_0 : Int) (l0_1 : List (S66)) (l0_2 : List Int) (a1_0 : Int) (l1_1 : List (S66)) (l1_2 : List Int) : Option (Bool) := if a0_0 = a1_0 then (if (l0_1.length : Int) = (l1_1.length : Int) then ((undercroftref03_SameInts.f k l0_2 l1_2).bind fun t270 => (undercroftref03_Same.j0 k (!t270) a0_0 l0_1 l0_2 a1_0 l1_1 l1_2)) else (undercroftref03_Same.j0 k true a0_0 l0_1 l0_2 a1_0 l1_1 l1_2)) else (undercroftref03_Same.j0 k true a0_0 l0_1 l0_2 a1_0 l1_1 l1_2)
theorem undercroftref03_Same.mono_l : ∀ k, (∀ y0 y1 y2 y3 y4 y5 y6, LeO (undercroftref03_Same.j0 k y0 y1 y2 y3 y4 y5 y6) (undercroftref03_Same.j0 (k + 1) y0 y1 y2 y3 y4 y5 y6)) ∧ (∀ y0 y1 y2 y3 y4 y5 y6, LeO (undercroftref03_Same.l0 k y0 y1 y2 y3 y4 y5 y6) (undercroftref03_Same.l0 (k + 1) y0 y1 y2 y3 y4 y5 y6))
  | 0 => ⟨fun _ _ _ _ _ _ _ r h => by simp [undercroftref03_Same.j0] at h, fun _ _ _ _ _ _ _ r h => by simp [undercroftref03_Same.l0] at h⟩
  | k + 1 => by
    obtain ⟨ih0, ih1⟩ := undercroftref03_Same.mono_l k
    refine ⟨?_, ?_⟩
    · intro y0 y1 y2 y3 y4 y5 y6
      unfold undercroftref03_Same.j0
      repeat' first
      | (with_reducible exact ih0 _ _ _ _ _ _ _)
      | (with_reducible exact ih1 _ _ _ _ _ _ _)
      | (with_reducible exact undercroftref03_SameInts.mono _ _ _)
      | (with_reducible exact LeO.refl _)
      | (with_reducible exact LeO.none _)
      | (with_reducible refine LeO.ite ?_ ?_)
      | (with_reducible refine LeO.bind ?_ (fun _ => ?_))
      | exact ih0 _ _ _ _ _ _ _
      | exact ih1 _ _ _ _ _ _ _
      | exact undercroftref03_SameInts.mono _ _ _
      | exact LeO.none _
      | refine LeO.ite ?_ ?_
      | refine LeO.bind ?_ (fun _ => ?_)
    · intro y0 y1 y2 y3 y4 y5 y6
      unfold undercroftref03_Same.l0
      repeat' first
      | (with_reducible exact ih0 _ _ _ _ _ _ _)
      | (with_reducible exact ih1 _ _ _ _ _ _ _)
      | (with_reducible exact undercroftref03_SameInts.mono _ _ _)
      | (with_reducible exact LeO.refl _)
      | (with_reducible exact LeO.none _)
      | (with_reducible refine LeO.ite ?_ ?_)
      | (with_reducible refine LeO.bind ?_ (fun _ => ?_))
      | exact ih0 _ _ _ _ _ _ _
      | exact ih1 _ _ _ _ _ _ _
      | exact undercroftref03_SameInts.mono _ _ _
      | exact LeO.none _
      | refine LeO.ite ?_ ?_
      | refine LeO.bind ?_ (fun _ => ?_)
theorem undercroftref03_Same.mono : ∀ a0 a1 a2 a3 a4 a5 k, LeO (undercroftref03_Same.f k a0 a1 a2 a3 a4 a5) (undercroftref03_Same.f (k + 1) a0 a1 a2 a3 a4 a5) := by
  intro a0 a1 a2 a3 a4 a5 k
  obtain ⟨ih0, ih1⟩ := undercroftref03_Same.mono_l k
  unfold undercroftref03_Same.f
  repeat' first
      | (with_reducible exact ih0 _ _ _ _ _ _ _)
      | (with_reducible exact ih1 _ _ _ _ _ _ _)
      | (with_reducible exact undercroftref03_SameInts.mono _ _ _)
      | (with_reducible exact LeO.refl _)
      | (with_reducible exact LeO.none _)
      | (with_reducible refine LeO.ite ?_ ?_)
      | (with_reducible refine LeO.bind ?_ (fun _ => ?_))
      | exact ih0 _ _ _ _ _ _ _
      | exact ih1 _ _ _ _ _ _ _
      | exact undercroftref03_SameInts.mono _ _ _
      | exact LeO.none _
      | refine LeO.ite ?_ ?_
      | refine LeO.bind ?_ (fun _ => ?_)
set_option maxHeartbeats 8000000 in
set_option maxRecDepth 100000 in
theorem undercroftref03_Same.calls (k : Nat) (a0_0 : Int) (A0_1 : Option Addr) (c0_1 : Nat) (l0_1 : List (S66)) (A0_2 : Option Addr) (c0_2 : Nat) (l0_2 : List Int) (a1_0 : Int) (A1_1 : Option Addr) (c1_1 : Nat) (l1_1 : List (S66)) (A1_2 : Option Addr) (c1_2 : Nat) (l1_2 : List Int) (r : Bool) (w : World) (hr0_1 : Kd.C k66 w A0_1 l0_1.length l0_1) (hc0_1 : l0_1.length ≤ c0_1) (hr0_2 : Kd.C (Kd.int .i64) w A0_2 l0_2.length l0_2) (hc0_2 : l0_2.length ≤ c0_2) (hr1_1 : Kd.C k66 w A1_1 l1_1.length l1_1) (hc1_1 : l1_1.length ≤ c1_1) (hr1_2 : Kd.C (Kd.int .i64) w A1_2 l1_2.length l1_2) (hc1_2 : l1_2.length ≤ c1_2) (h : undercroftref03_Same.f k a0_0 l0_1 l0_2 a1_0 l1_1 l1_2 = some r) :
    Calls Try.prog 56 #[.agg #[.int .u64 a0_0, .slice A0_1 l0_1.length c0_1, .slice A0_2 l0_2.length c0_2], .agg #[.int .u64 a1_0, .slice A1_1 l1_1.length c1_1, .slice A1_2 l1_2.length c1_2]] w fun e w' => e = .returned (.bool r) ∧ Below w.heap.size w w' := by
  have hu60 := Try.underlying60
  have HR0_1 := Aside0.mk hr0_1
  have HC0_1 := Aside0.mk hc0_1
  clear hr0_1 hc0_1
  have HR0_2 := Aside0.mk hr0_2
  have HC0_2 := Aside0.mk hc0_2
  clear hr0_2 hc0_2
  have HR1_1 := Aside0.mk hr1_1
  have HC1_1 := Aside0.mk hc1_1
  clear hr1_1 hc1_1
  have HR1_2 := Aside0.mk hr1_2
  have HC1_2 := Aside0.mk hc1_2
  clear hr1_2 hc1_2
  have HB := Aside0.mk (Below.refl w.heap.size w)
  have H : (if a0_0 = a1_0 then (if (l0_1.length : Int) = (l1_1.length : Int) then ((undercroftref03_SameInts.f k l0_2 l1_2).bind fun t270 => (undercroftref03_Same.j0 k (!t270) a0_0 l0_1 l0_2 a1_0 l1_1 l1_2)) else (undercroftref03_Same.j0 k true a0_0 l0_1 l0_2 a1_0 l1_1 l1_2)) else (undercroftref03_Same.j0 k true a0_0 l0_1 l0_2 a1_0 l1_1 l1_2)) = some r := h
  clear h
  have HC3 := Aside0.mk H
  clear H
  go_enter Try.func56, Try.ntmps56
  go_upto_region 1 with (first | ((with_reducible refine gate_dst (N := 2) rfl ?_); (try (refine gate_guard (by rfl) ?_; dsimp only)); refine box_event ?hg (N := 2) ?hd (cs := #[.int .u64 a0_0, .slice A0_1 l0_1.length c0_1, .slice A0_2 l0_2.length c0_2]) (t := 60) ?hr ?_; (case hd => rfl); (case hg => rfl); (case hr => go_simp; first | done | rfl); intro gb268 hg w4 hbox hb; have n0_ := Aside0.mk (below_step (by repeat (first | (with_reducible first | exact HB.out | apply below_alloc | apply pw_below_drewN | apply below_drew1) | exact HB.out)) hb); have n1_ := Aside0.mk (hbox); have n2_ := Aside0.mk ((by rw [hg]; exact (below_size (by repeat (first | (with_reducible first | exact HB.out | apply below_alloc | apply pw_below_drewN | apply below_drew1) | exact HB.out))) : w.heap.size ≤ gb268)); have n3_ := Aside0.mk ((by rw [hg]; exact (below_size (by repeat (first | (with_reducible first | exact HB.out | apply below_alloc | apply pw_below_drewN | apply below_drew1) | exact HB.out))) : w.heap.size ≤ gb268)); clear HB; have HB := n0_; have BK268 := n1_; have GW268 := n2_; have GE268 := n3_; clear n0_ n1_ n2_ n3_; clear hb hbox hg) | ((with_reducible refine gate_dst (N := 3) rfl ?_); (try (refine gate_guard (by rfl) ?_; dsimp only)); refine box_event ?hg (N := 3) ?hd (cs := #[.int .u64 a1_0, .slice A1_1 l1_1.length c1_1, .slice A1_2 l1_2.length c1_2]) (t := 60) ?hr ?_; (case hd => rfl); (case hg => rfl); (case hr => go_simp; first | done | rfl); intro gb269 hg w5 hbox hb; have n0_ := Aside0.mk (blk_below (g := gb268) (o := .cells #[.int .u64 a0_0, .slice A0_1 l0_1.length c0_1, .slice A0_2 l0_2.length c0_2] 60 (0, 0)) (by (with_reducible repeat (first | refine blk_drewN ?_ _ | refine blk_drew ?_ | refine blk_alloc ?_ _)); exact BK268.out) hb); have n1_ := Aside0.mk (below_step (by repeat (first | (with_reducible first | exact HB.out | apply below_alloc | apply pw_below_drewN | apply below_drew1 | refine below_set ?_ GE268.out) | exact HB.out)) hb); have n2_ := Aside0.mk (hbox); have n3_ := Aside0.mk ((by rw [hg]; exact (below_size (by repeat (first | (with_reducible first | exact HB.out | apply below_alloc | apply pw_below_drewN | apply below_drew1 | refine below_set ?_ GE268.out) | exact HB.out))) : w.heap.size ≤ gb269)); have n4_ := Aside0.mk ((by rw [hg]; exact (below_size (by repeat (first | (with_reducible first | exact HB.out | apply below_alloc | apply pw_below_drewN | apply below_drew1 | refine below_set ?_ GE268.out) | exact HB.out))) : w.heap.size ≤ gb269)); have n5_ := Aside0.mk ((by rw [hg]; exact Nat.ne_of_lt (blk_lt (g := gb268) (o := .cells #[.int .u64 a0_0, .slice A0_1 l0_1.length c0_1, .slice A0_2 l0_2.length c0_2] 60 (0, 0)) (by (with_reducible repeat (first | refine blk_drewN ?_ _ | refine blk_drew ?_ | refine blk_alloc ?_ _)); exact BK268.out)) : gb268 ≠ gb269)); have n6_ := Aside0.mk ((by rw [hg]; exact Nat.ne_of_gt (blk_lt (g := gb268) (o := .cells #[.int .u64 a0_0, .slice A0_1 l0_1.length c0_1, .slice A0_2 l0_2.length c0_2] 60 (0, 0)) (by (with_reducible repeat (first | refine blk_drewN ?_ _ | refine blk_drew ?_ | refine blk_alloc ?_ _)); exact BK268.out)) : gb269 ≠ gb268)); clear BK268; clear HB; have BK268 := n0_; have HB := n1_; have BK269 := n2_; have GW269 := n3_; have GE269 := n4_; have NB268_269 := n5_; have NB269_268 := n6_; clear n0_ n1_ n2_ n3_ n4_ n5_ n6_; clear hb hbox hg))
  repeat (go_quiet (first | ((with_reducible refine gate_dst (N := 2) rfl ?_); (try (refine gate_guard (by rfl) ?_; dsimp only)); refine box_event ?hg (N := 2) ?hd (cs := #[.int .u64 a0_0, .slice A0_1 l0_1.length c0_1, .slice A0_2 l0_2.length c0_2]) (t := 60) ?hr ?_; (case hd => rfl); (case hg => rfl); (case hr => go_simp; first | done | rfl); intro gb268 hg w4 hbox hb; have n0_ := Aside0.mk (below_step (by repeat (first | (with_reducible first | exact HB.out | apply below_alloc | apply pw_below_drewN | apply below_drew1) | exact HB.out)) hb); have n1_ := Aside0.mk (hbox); have n2_ := Aside0.mk ((by rw [hg]; exact (below_size (by repeat (first | (with_reducible first | exact HB.out | apply below_alloc | apply pw_below_drewN | apply below_drew1) | exact HB.out))) : w.heap.size ≤ gb268)); have n3_ := Aside0.mk ((by rw [hg]; exact (below_size (by repeat (first | (with_reducible first | exact HB.out | apply below_alloc | apply pw_below_drewN | apply below_drew1) | exact HB.out))) : w.heap.size ≤ gb268)); clear HB; have HB := n0_; have BK268 := n1_; have GW268 := n2_; have GE268 := n3_; clear n0_ n1_ n2_ n3_; clear hb hbox hg) | ((with_reducible refine gate_dst (N := 3) rfl ?_); (try (refine gate_guard (by rfl) ?_; dsimp only)); refine box_event ?hg (N := 3) ?hd (cs := #[.int .u64 a1_0, .slice A1_1 l1_1.length c1_1, .slice A1_2 l1_2.length c1_2]) (t := 60) ?hr ?_; (case hd => rfl); (case hg => rfl); (case hr => go_simp; first | done | rfl); intro gb269 hg w5 hbox hb; have n0_ := Aside0.mk (blk_below (g := gb268) (o := .cells #[.int .u64 a0_0, .slice A0_1 l0_1.length c0_1, .slice A0_2 l0_2.length c0_2] 60 (0, 0)) (by (with_reducible repeat (first | refine blk_drewN ?_ _ | refine blk_drew ?_ | refine blk_alloc ?_ _)); exact BK268.out) hb); have n1_ := Aside0.mk (below_step (by repeat (first | (with_reducible first | exact HB.out | apply below_alloc | apply pw_below_drewN | apply below_drew1 | refine below_set ?_ GE268.out) | exact HB.out)) hb); have n2_ := Aside0.mk (hbox); have n3_ := Aside0.mk ((by rw [hg]; exact (below_size (by repeat (first | (with_reducible first | exact HB.out | apply below_alloc | apply pw_below_drewN | apply below_drew1 | refine below_set ?_ GE268.out) | exact HB.out))) : w.heap.size ≤ gb269)); have n4_ := Aside0.mk ((by rw [hg]; exact (below_size (by repeat (first | (with_reducible first | exact HB.out | apply below_alloc | apply pw_below_drewN | apply below_drew1 | refine below_set ?_ GE268.out) | exact HB.out))) : w.heap.size ≤ gb269)); have n5_ := Aside0.mk ((by rw [hg]; exact Nat.ne_of_lt (blk_lt (g := gb268) (o := .cells #[.int .u64 a0_0, .slice A0_1 l0_1.length c0_1, .slice A0_2 l0_2.length c0_2] 60 (0, 0)) (by (with_reducible repeat (first | refine blk_drewN ?_ _ | refine blk_drew ?_ | refine blk_alloc ?_ _)); exact BK268.out)) : gb268 ≠ gb269)); have n6_ := Aside0.mk ((by rw [hg]; exact Nat.ne_of_gt (blk_lt (g := gb268) (o := .cells #[.int .u64 a0_0, .slice A0_1 l0_1.length c0_1, .slice A0_2 l0_2.length c0_2] 60 (0, 0)) (by (with_reducible repeat (first | refine blk_drewN ?_ _ | refine blk_drew ?_ | refine blk_alloc ?_ _)); exact BK268.out)) : gb269 ≠ gb268)); clear BK268; clear HB; have BK268 := n0_; have HB := n1_; have BK269 := n2_; have GW269 := n3_; have GE269 := n4_; have NB268_269 := n5_; have NB269_268 := n6_; clear n0_ n1_ n2_ n3_ n4_ n5_ n6_; clear hb hbox hg)); go_upto_region 1 with (first | ((with_reducible refine gate_dst (N := 2) rfl ?_); (try (refine gate_guard (by rfl) ?_; dsimp only)); refine box_event ?hg (N := 2) ?hd (cs := #[.int .u64 a0_0, .slice A0_1 l0_1.length c0_1, .slice A0_2 l0_2.length c0_2]) (t := 60) ?hr ?_; (case hd => rfl); (case hg => rfl); (case hr => go_simp; first | done | rfl); intro gb268 hg w4 hbox hb; have n0_ := Aside0.mk (below_step (by repeat (first | (with_reducible first | exact HB.out | apply below_alloc | apply pw_below_drewN | apply below_drew1) | exact HB.out)) hb); have n1_ := Aside0.mk (hbox); have n2_ := Aside0.mk ((by rw [hg]; exact (below_size (by repeat (first | (with_reducible first | exact HB.out | apply below_alloc | apply pw_below_drewN | apply below_drew1) | exact HB.out))) : w.heap.size ≤ gb268)); have n3_ := Aside0.mk ((by rw [hg]; exact (below_size (by repeat (first | (with_reducible first | exact HB.out | apply below_alloc | apply pw_below_drewN | apply below_drew1) | exact HB.out))) : w.heap.size ≤ gb268)); clear HB; have HB := n0_; have BK268 := n1_; have GW268 := n2_; have GE268 := n3_; clear n0_ n1_ n2_ n3_; clear hb hbox hg) | ((with_reducible refine gate_dst (N := 3) rfl ?_); (try (refine gate_guard (by rfl) ?_; dsimp only)); refine box_event ?hg (N := 3) ?hd (cs := #[.int .u64 a1_0, .slice A1_1 l1_1.length c1_1, .slice A1_2 l1_2.length c1_2]) (t := 60) ?hr ?_; (case hd => rfl); (case hg => rfl); (case hr => go_simp; first | done | rfl); intro gb269 hg w5 hbox hb; have n0_ := Aside0.mk (blk_below (g := gb268) (o := .cells #[.int .u64 a0_0, .slice A0_1 l0_1.length c0_1, .slice A0_2 l0_2.length c0_2] 60 (0, 0)) (by (with_reducible repeat (first | refine blk_drewN ?_ _ | refine blk_drew ?_ | refine blk_alloc ?_ _)); exact BK268.out) hb); have n1_ := Aside0.mk (below_step (by repeat (first | (with_reducible first | exact HB.out | apply below_alloc | apply pw_below_drewN | apply below_drew1 | refine below_set ?_ GE268.out) | exact HB.out)) hb); have n2_ := Aside0.mk (hbox); have n3_ := Aside0.mk ((by rw [hg]; exact (below_size (by repeat (first | (with_reducible first | exact HB.out | apply below_alloc | apply pw_below_drewN | apply below_drew1 | refine below_set ?_ GE268.out) | exact HB.out))) : w.heap.size ≤ gb269)); have n4_ := Aside0.mk ((by rw [hg]; exact (below_size (by repeat (first | (with_reducible first | exact HB.out | apply below_alloc | apply pw_below_drewN | apply below_drew1 | refine below_set ?_ GE268.out) | exact HB.out))) : w.heap.size ≤ gb269)); have n5_ := Aside0.mk ((by rw [hg]; exact Nat.ne_of_lt (blk_lt (g := gb268) (o := .cells #[.int .u64 a0_0, .slice A0_1 l0_1.length c0_1, .slice A0_2 l0_2.length c0_2] 60 (0, 0)) (by (with_reducible repeat (first | refine blk_drewN ?_ _ | refine blk_drew ?_ | refine blk_alloc ?_ _)); exact BK268.out)) : gb268 ≠ gb269)); have n6_ := Aside0.mk ((by rw [hg]; exact Nat.ne_of_gt (blk_lt (g := gb268) (o := .cells #[.int .u64 a0_0, .slice A0_1 l0_1.length c0_1, .slice A0_2 l0_2.length c0_2] 60 (0, 0)) (by (with_reducible repeat (first | refine blk_drewN ?_ _ | refine blk_drew ?_ | refine blk_alloc ?_ _)); exact BK268.out)) : gb269 ≠ gb268)); clear BK268; clear HB; have BK268 := n0_; have HB := n1_; have BK269 := n2_; have GW269 := n3_; have GE269 := n4_; have NB268_269 := n5_; have NB269_268 := n6_; clear n0_ n1_ n2_ n3_ n4_ n5_ n6_; clear hb hbox hg)))
  (try simp only [Act.put, List.setIfInBounds_toArray, List.set_cons_zero, List.set_cons_succ])
  go_cut [27] (fun v27 wc => ∃ (kq : Nat) (x27_2 : Bool), v27 = .bool x27_2 ∧ Aside0 (undercroftref03_Same.j0 kq x27_2 a0_0 l0_1 l0_2 a1_0 l1_1 l1_2 = some r) ∧ Aside0 (kq ≤ k) ∧ Aside0 (wc.heap[gb268]? = some (.cells #[.int .u64 a0_0, (.slice A0_1 l0_1.length c0_1), (.slice A0_2 l0_2.length c0_2)] 60 (0, 0))) ∧ Aside0 (wc.heap[gb269]? = some (.cells #[.int .u64 a1_0, (.slice A1_1 l1_1.length c1_1), (.slice A1_2 l1_2.length c1_2)] 60 (0, 0))) ∧ Aside0 (Below w.heap.size w wc))
  case first =>
    have H := HC3.out
    clear HC3
    by_cases c6 : a0_0 = a1_0
    rotate_left
    · rw [if_neg c6] at H
      have c6b0 : (a0_0 == a1_0) = false := beq_eq_false_iff_ne.mpr c6
      have c6b1 : (a0_0 != a1_0) = true := bne_iff_ne.mpr c6
      (first | rw [c6b0] | (simp only [i64_w, i32_w]; rw [c6b0]) | skip)
      have H' := Aside0.mk H
      clear H
      have hnb15 := NB268_269.out
      have hnc15 := NB269_268.out
      have hcz16_0 : w5.cell? ⟨gb268, 0, none⟩ = some (.int .u64 a0_0) := (blk_cell BK268.out 0).trans rfl
      have hcz16_1 : w5.cell? ⟨gb268, 1, none⟩ = some (.slice A0_1 l0_1.length c0_1) := (blk_cell BK268.out 1).trans rfl
      have hcz16_2 : w5.cell? ⟨gb268, 2, none⟩ = some (.slice A0_2 l0_2.length c0_2) := (blk_cell BK268.out 2).trans rfl
      have hfz16_0 := blk_frozen BK268.out 0
      have hfz16_1 := blk_frozen BK268.out 1
      have hfz16_2 := blk_frozen BK268.out 2
      have hcz17_0 : w5.cell? ⟨gb269, 0, none⟩ = some (.int .u64 a1_0) := (blk_cell BK269.out 0).trans rfl
      have hcz17_1 : w5.cell? ⟨gb269, 1, none⟩ = some (.slice A1_1 l1_1.length c1_1) := (blk_cell BK269.out 1).trans rfl
      have hcz17_2 : w5.cell? ⟨gb269, 2, none⟩ = some (.slice A1_2 l1_2.length c1_2) := (blk_cell BK269.out 2).trans rfl
      have hfz17_0 := blk_frozen BK269.out 0
      have hfz17_1 := blk_frozen BK269.out 1
      have hfz17_2 := blk_frozen BK269.out 2
      go_wp2
      repeat (go_quiet (fail); try go_wp2)
      go_meet
      case rel => exact ⟨_, (true), (by first | rfl | (simp; done) | (simp [*]; done)), H', ⟨by first | omega | exact Nat.le_refl _⟩, ⟨by (with_reducible repeat (first | refine blk_drewN ?_ _ | refine blk_drew ?_ | refine blk_alloc ?_ _)); exact BK268.out⟩, ⟨by (with_reducible repeat (first | refine blk_drewN ?_ _ | refine blk_drew ?_ | refine blk_alloc ?_ _)); exact BK269.out⟩, ⟨by repeat (first | (with_reducible first | exact HB.out | apply below_alloc | apply pw_below_drewN | apply below_drew1 | refine below_set ?_ GE268.out | refine below_set ?_ GE269.out) | exact HB.out)⟩⟩
    rw [if_pos c6] at H
    have c6b0 : (a0_0 == a1_0) = true := beq_iff_eq.mpr c6
    have c6b1 : (a0_0 != a1_0) = false := bne_eq_false_iff_eq.mpr c6
    clear c6
    (first | rw [c6b0] | (simp only [i64_w, i32_w]; rw [c6b0]) | skip)
    by_cases c7 : (l0_1.length : Int) = (l1_1.length : Int)
    rotate_left
    · rw [if_neg c7] at H
      have c7b0 : ((l0_1.length : Int) == (l1_1.length : Int)) = false := beq_eq_false_iff_ne.mpr c7
      have c7b1 : ((l0_1.length : Int) != (l1_1.length : Int)) = true := bne_iff_ne.mpr c7
      have c7b2 : (l0_1.length == l1_1.length) = false := by first | simpa using c7 | (simp at c7 ⊢; omega)
      have H' := Aside0.mk H
      clear H
      have hnb12 := NB268_269.out
      have hnc12 := NB269_268.out
      have hcz13_0 : w5.cell? ⟨gb268, 0, none⟩ = some (.int .u64 a0_0) := (blk_cell BK268.out 0).trans rfl
      have hcz13_1 : w5.cell? ⟨gb268, 1, none⟩ = some (.slice A0_1 l0_1.length c0_1) := (blk_cell BK268.out 1).trans rfl
      have hcz13_2 : w5.cell? ⟨gb268, 2, none⟩ = some (.slice A0_2 l0_2.length c0_2) := (blk_cell BK268.out 2).trans rfl
      have hfz13_0 := blk_frozen BK268.out 0
      have hfz13_1 := blk_frozen BK268.out 1
      have hfz13_2 := blk_frozen BK268.out 2
      have hcz14_0 : w5.cell? ⟨gb269, 0, none⟩ = some (.int .u64 a1_0) := (blk_cell BK269.out 0).trans rfl
      have hcz14_1 : w5.cell? ⟨gb269, 1, none⟩ = some (.slice A1_1 l1_1.length c1_1) := (blk_cell BK269.out 1).trans rfl
      have hcz14_2 : w5.cell? ⟨gb269, 2, none⟩ = some (.slice A1_2 l1_2.length c1_2) := (blk_cell BK269.out 2).trans rfl
      have hfz14_0 := blk_frozen BK269.out 0
      have hfz14_1 := blk_frozen BK269.out 1
      have hfz14_2 := blk_frozen BK269.out 2
      go_wp2
      repeat (go_quiet (fail); try go_wp2)
      go_meet
      case rel => exact ⟨_, (true), (by first | rfl | (simp; done) | (simp [*]; done)), H', ⟨by first | omega | exact Nat.le_refl _⟩, ⟨by (with_reducible repeat (first | refine blk_drewN ?_ _ | refine blk_drew ?_ | refine blk_alloc ?_ _)); exact BK268.out⟩, ⟨by (with_reducible repeat (first | refine blk_drewN ?_ _ | refine blk_drew ?_ | refine blk_alloc ?_ _)); exact BK269.out⟩, ⟨by repeat (first | (with_reducible first | exact HB.out | apply below_alloc | apply pw_below_drewN | apply below_drew1 | refine below_set ?_ GE268.out | refine below_set ?_ GE269.out) | exact HB.out)⟩⟩
    rw [if_pos c7] at H
    have c7b0 : ((l0_1.length : Int) == (l1_1.length : Int)) = true := beq_iff_eq.mpr c7
    have c7b1 : ((l0_1.length : Int) != (l1_1.length : Int)) = false := bne_eq_false_iff_eq.mpr c7
    have c7b2 : (l0_1.length == l1_1.length) = true := by first | simpa using c7 | (simp at c7 ⊢; omega)
    clear c7
    replace H := Option.bind_eq_some_iff.mp H
    obtain ⟨t270, A80, H⟩ := H
    replace H : (undercroftref03_Same.j0 k (!t270) a0_0 l0_1 l0_2 a1_0 l1_1 l1_2) = some r := H
    have A8 := Aside0.mk A80
    clear A80
    have H' := Aside0.mk H
    clear H
    have hnb9 := NB268_269.out
    have hnc9 := NB269_268.out
    have hcz10_0 : w5.cell? ⟨gb268, 0, none⟩ = some (.int .u64 a0_0) := (blk_cell BK268.out 0).trans rfl
    have hcz10_1 : w5.cell? ⟨gb268, 1, none⟩ = some (.slice A0_1 l0_1.length c0_1) := (blk_cell BK268.out 1).trans rfl
    have hcz10_2 : w5.cell? ⟨gb268, 2, none⟩ = some (.slice A0_2 l0_2.length c0_2) := (blk_cell BK268.out 2).trans rfl
    have hfz10_0 := blk_frozen BK268.out 0
    have hfz10_1 := blk_frozen BK268.out 1
    have hfz10_2 := blk_frozen BK268.out 2
    have hcz11_0 : w5.cell? ⟨gb269, 0, none⟩ = some (.int .u64 a1_0) := (blk_cell BK269.out 0).trans rfl
    have hcz11_1 : w5.cell? ⟨gb269, 1, none⟩ = some (.slice A1_1 l1_1.length c1_1) := (blk_cell BK269.out 1).trans rfl
    have hcz11_2 : w5.cell? ⟨gb269, 2, none⟩ = some (.slice A1_2 l1_2.length c1_2) := (blk_cell BK269.out 2).trans rfl
    have hfz11_0 := blk_frozen BK269.out 0
    have hfz11_1 := blk_frozen BK269.out 1
    have hfz11_2 := blk_frozen BK269.out 2
    go_wp2_with (first | (go_at_call 77; (with_reducible refine (undercroftref03_SameInts.calls k _ _ l0_2 _ _ l1_2 t270 _ ?side1 ?side2 ?side3 ?side4 A8.out).mono ?_); (case side1 => repeat (first | exact (Kd.C_below HR0_2.out HB.out) | (with_reducible refine Kd.C_alloc ?_ _) | (with_reducible refine Kd.C_drewN ?_ _) | (with_reducible refine Kd.C_drew ?_))); (case side2 => exact HC0_2.out); (case side3 => repeat (first | exact (Kd.C_below HR1_2.out HB.out) | (with_reducible refine Kd.C_alloc ?_ _) | (with_reducible refine Kd.C_drewN ?_ _) | (with_reducible refine Kd.C_drew ?_))); (case side4 => exact HC1_2.out); rintro e w' ⟨rfl, ⟨nd, rfl⟩⟩; (try first | exact ⟨rfl, _, World.drewN_drewN _ _ _⟩ | exact ⟨rfl, _, Eq.trans (World.drewN_drewN _ _ _) (congrArg (World.drewN _) (Nat.add_assoc _ _ _))⟩)))
    repeat (go_quiet (first | (go_at_call 77; (with_reducible refine (undercroftref03_SameInts.calls k _ _ l0_2 _ _ l1_2 t270 _ ?side1 ?side2 ?side3 ?side4 A8.out).mono ?_); (case side1 => repeat (first | exact (Kd.C_below HR0_2.out HB.out) | (with_reducible refine Kd.C_alloc ?_ _) | (with_reducible refine Kd.C_drewN ?_ _) | (with_reducible refine Kd.C_drew ?_))); (case side2 => exact HC0_2.out); (case side3 => repeat (first | exact (Kd.C_below HR1_2.out HB.out) | (with_reducible refine Kd.C_alloc ?_ _) | (with_reducible refine Kd.C_drewN ?_ _) | (with_reducible refine Kd.C_drew ?_))); (case side4 => exact HC1_2.out); rintro e w' ⟨rfl, ⟨nd, rfl⟩⟩; (try first | exact ⟨rfl, _, World.drewN_drewN _ _ _⟩ | exact ⟨rfl, _, Eq.trans (World.drewN_drewN _ _ _) (congrArg (World.drewN _) (Nat.add_assoc _ _ _))⟩))); try go_wp2_with (first | (go_at_call 77; (with_reducible refine (undercroftref03_SameInts.calls k _ _ l0_2 _ _ l1_2 t270 _ ?side1 ?side2 ?side3 ?side4 A8.out).mono ?_); (case side1 => repeat (first | exact (Kd.C_below HR0_2.out HB.out) | (with_reducible refine Kd.C_alloc ?_ _) | (with_reducible refine Kd.C_drewN ?_ _) | (with_reducible refine Kd.C_drew ?_))); (case side2 => exact HC0_2.out); (case side3 => repeat (first | exact (Kd.C_below HR1_2.out HB.out) | (with_reducible refine Kd.C_alloc ?_ _) | (with_reducible refine Kd.C_drewN ?_ _) | (with_reducible refine Kd.C_drew ?_))); (case side4 => exact HC1_2.out); rintro e w' ⟨rfl, ⟨nd, rfl⟩⟩; (try first | exact ⟨rfl, _, World.drewN_drewN _ _ _⟩ | exact ⟨rfl, _, Eq.trans (World.drewN_drewN _ _ _) (congrArg (World.drewN _) (Nat.add_assoc _ _ _))⟩))))
    go_meet
    case rel => exact ⟨_, (!t270), (by first | rfl | (simp; done) | (simp [*]; done)), H', ⟨by first | omega | exact Nat.le_refl _⟩, ⟨by (with_reducible repeat (first | refine blk_drewN ?_ _ | refine blk_drew ?_ | refine blk_alloc ?_ _)); exact BK268.out⟩, ⟨by (with_reducible repeat (first | refine blk_drewN ?_ _ | refine blk_drew ?_ | refine blk_alloc ?_ _)); exact BK269.out⟩, ⟨by repeat (first | (with_reducible first | exact HB.out | apply below_alloc | apply pw_below_drewN | apply below_drew1 | refine below_set ?_ GE268.out | refine below_set ?_ GE269.out) | exact HB.out)⟩⟩
  case rest =>
    clear HC3
    try clear c1
    try clear p2
    try clear c5
    try clear c6
    try clear c6b0
    try clear c6b1
    try clear c7
    try clear c7b0
    try clear c7b1
    try clear c7b2
    try clear c9
    try clear c12
    try clear c15
    try clear hcz10_0
    try clear hcz10_1
    try clear hcz10_2
    try clear hcz11_0
    try clear hcz11_1
    try clear hcz11_2
    try clear hcz13_0
    try clear hcz13_1
    try clear hcz13_2
    try clear hcz14_0
    try clear hcz14_1
    try clear hcz14_2
    try clear hcz16_0
    try clear hcz16_1
    try clear hcz16_2
    try clear hcz17_0
    try clear hcz17_1
    try clear hcz17_2
    try clear hfz10_0
    try clear hfz10_1
    try clear hfz10_2
    try clear hfz11_0
    try clear hfz11_1
    try clear hfz11_2
    try clear hfz13_0
    try clear hfz13_1
    try clear hfz13_2
    try clear hfz14_0
    try clear hfz14_1
    try clear hfz14_2
    try clear hfz16_0
    try clear hfz16_1
    try clear hfz16_2
    try clear hfz17_0
    try clear hfz17_1
    try clear hfz17_2
    obtain ⟨kq, x27_2, rfl, HA, HJ2, BK268, BK269, HB⟩ := hcut
    cases kq with
    | zero => exact absurd HA.out (by simp [undercroftref03_Same.j0])
    | succ kj2 =>
      have H := HA.out
      clear HA
      simp only [undercroftref03_Same.j0] at H
      by_cases c18 : x27_2 = true
      · subst c18
        have H1 : (some false) = some r := by rw [if_pos rfl] at H; exact H
        clear H
        have H := H1
        clear H1
        obtain rfl := Option.some.inj H
        go_wp2
        repeat (go_quiet (fail); try go_wp2)
        go_ret
        exact ⟨by first | rfl | (simp [errW_none, errW_some] <;> rfl) | (simp [*, errW_none, errW_some] <;> rfl), by repeat (first | (with_reducible first | exact HB.out | apply below_alloc | apply pw_below_drewN | apply below_drew1 | refine below_set ?_ GE268.out | refine below_set ?_ GE269.out) | exact HB.out)⟩
      · replace c18 := Bool.eq_false_iff.mpr c18
        subst c18
        have H1 : (undercroftref03_Same.l0 kj2 0 a0_0 l0_1 l0_2 a1_0 l1_1 l1_2) = some r := by rw [if_neg (show ¬ (false = true) by decide)] at H; exact H
        clear H
        have H := H1
        clear H1
        have H' := Aside0.mk H
        clear H
        go_wp2
        repeat (go_quiet (fail); try go_wp2)
        go_loopg [5] kj2 (fun kq v5 w' => ∃ (x5_2 : Int), v5 = .int .i64 x5_2 ∧ Aside0 (undercroftref03_Same.l0 kq x5_2 a0_0 l0_1 l0_2 a1_0 l1_1 l1_2 = some r) ∧ Aside0 (kq ≤ kj2) ∧ Aside0 (w'.heap[gb268]? = some (.cells #[.int .u64 a0_0, (.slice A0_1 l0_1.length c0_1), (.slice A0_2 l0_2.length c0_2)] 60 (0, 0))) ∧ Aside0 (w'.heap[gb269]? = some (.cells #[.int .u64 a1_0, (.slice A1_1 l1_1.length c1_1), (.slice A1_2 l1_2.length c1_2)] 60 (0, 0))) ∧ Aside0 (Below w.heap.size w w'))
        case atStart => exact ⟨(0), (by first | rfl | (simp; done) | (simp [*]; done)), H', ⟨Nat.le_refl _⟩, ⟨by (with_reducible repeat (first | refine blk_drewN ?_ _ | refine blk_drew ?_ | refine blk_alloc ?_ _)); exact BK268.out⟩, ⟨by (with_reducible repeat (first | refine blk_drewN ?_ _ | refine blk_drew ?_ | refine blk_alloc ?_ _)); exact BK269.out⟩, ⟨by repeat (first | (with_reducible first | exact HB.out | apply below_alloc | apply pw_below_drewN | apply below_drew1 | refine below_set ?_ GE268.out | refine below_set ?_ GE269.out) | exact HB.out)⟩⟩
        case round =>
          clear H'
          try clear c1
          try clear p2
          try clear c5
          try clear c6
          try clear c6b0
          try clear c6b1
          try clear c7
          try clear c7b0
          try clear c7b1
          try clear c7b2
          try clear c9
          try clear c12
          try clear c15
          try clear c18
          try clear hcz10_0
          try clear hcz10_1
          try clear hcz10_2
          try clear hcz11_0
          try clear hcz11_1
          try clear hcz11_2
          try clear hcz13_0
          try clear hcz13_1
          try clear hcz13_2
          try clear hcz14_0
          try clear hcz14_1
          try clear hcz14_2
          try clear hcz16_0
          try clear hcz16_1
          try clear hcz16_2
          try clear hcz17_0
          try clear hcz17_1
          try clear hcz17_2
          try clear hfz10_0
          try clear hfz10_1
          try clear hfz10_2
          try clear hfz11_0
          try clear hfz11_1
          try clear hfz11_2
          try clear hfz13_0
          try clear hfz13_1
          try clear hfz13_2
          try clear hfz14_0
          try clear hfz14_1
          try clear hfz14_2
          try clear hfz16_0
          try clear hfz16_1
          try clear hfz16_2
          try clear hfz17_0
          try clear hfz17_1
          try clear hfz17_2
          try clear p2
          obtain ⟨x5_2, rfl, HA, HK2, BK268, BK269, HB⟩ := hrel
          cases gk with
          | zero => exact absurd HA.out (by simp [undercroftref03_Same.l0])
          | succ k2 =>
            have H := HA.out
            clear HA
            simp only [undercroftref03_Same.l0] at H
            by_cases c19 : x5_2 < (l0_1.length : Int)
            · rw [if_pos c19] at H
              have c19b0 : decide (x5_2 < (l0_1.length : Int)) = true := decide_eq_true c19
              clear c19
              by_cases c20 : 0 ≤ x5_2
              rotate_left
              · rw [if_neg c20] at H
                exact absurd H (by simp)
              rw [if_pos c20] at H
              have c20b0 : decide (0 ≤ x5_2) = true := decide_eq_true c20
              clear c20
              by_cases c21 : x5_2 < (l1_1.length : Int)
              rotate_left
              · rw [if_neg c21] at H
                exact absurd H (by simp)
              rw [if_pos c21] at H
              have c21b0 : decide (x5_2 < (l1_1.length : Int)) = true := decide_eq_true c21
              clear c21
              by_cases c22 : ((rd_T66 l0_1 x5_2).f0) = ((rd_T66 l1_1 x5_2).f0)
              rotate_left
              · rw [if_neg c22] at H
                have c22b0 : (((rd_T66 l0_1 x5_2).f0) == ((rd_T66 l1_1 x5_2).f0)) = false := beq_eq_false_iff_ne.mpr c22
                have c22b1 : (((rd_T66 l0_1 x5_2).f0) != ((rd_T66 l1_1 x5_2).f0)) = true := bne_iff_ne.mpr c22
                obtain rfl := Option.some.inj H
                have hnb38 := NB268_269.out
                have hnc38 := NB269_268.out
                have hcz39_0 : wr.cell? ⟨gb268, 0, none⟩ = some (.int .u64 a0_0) := (blk_cell BK268.out 0).trans rfl
                have hcz39_1 : wr.cell? ⟨gb268, 1, none⟩ = some (.slice A0_1 l0_1.length c0_1) := (blk_cell BK268.out 1).trans rfl
                have hcz39_2 : wr.cell? ⟨gb268, 2, none⟩ = some (.slice A0_2 l0_2.length c0_2) := (blk_cell BK268.out 2).trans rfl
                have hfz39_0 := blk_frozen BK268.out 0
                have hfz39_1 := blk_frozen BK268.out 1
                have hfz39_2 := blk_frozen BK268.out 2
                have p271 : 0 ≤ (x5_2 : Int) := of_decide_eq_true (by first | (with_reducible assumption) | assumption)
                have q271 : x5_2 < (l0_1.length : Int) := of_decide_eq_true (by first | (with_reducible assumption) | assumption)
                obtain ⟨ad271, A271_1, c271_1, e271, hx271_0, hx271_1, hl271_1, hi271_1⟩ := at_T66 HR0_1.out x5_2 p271 q271
                cases e271
                replace hx271_0 := (HB.out.cell (World.block_lt_of_cell? w _ hx271_0)).trans hx271_0
                replace hx271_1 := (HB.out.cell (World.block_lt_of_cell? w _ hx271_1)).trans hx271_1
                have HR271_1 := Aside0.mk hi271_1
                have HC271_1 := Aside0.mk hl271_1
                clear hi271_1 hl271_1
                replace p271 := eq_true p271
                replace q271 := eq_true q271
                have hcz40_0 : wr.cell? ⟨gb269, 0, none⟩ = some (.int .u64 a1_0) := (blk_cell BK269.out 0).trans rfl
                have hcz40_1 : wr.cell? ⟨gb269, 1, none⟩ = some (.slice A1_1 l1_1.length c1_1) := (blk_cell BK269.out 1).trans rfl
                have hcz40_2 : wr.cell? ⟨gb269, 2, none⟩ = some (.slice A1_2 l1_2.length c1_2) := (blk_cell BK269.out 2).trans rfl
                have hfz40_0 := blk_frozen BK269.out 0
                have hfz40_1 := blk_frozen BK269.out 1
                have hfz40_2 := blk_frozen BK269.out 2
                have p272 : 0 ≤ (x5_2 : Int) := of_decide_eq_true (by first | (with_reducible assumption) | assumption)
                have q272 : x5_2 < (l1_1.length : Int) := of_decide_eq_true (by first | (with_reducible assumption) | assumption)
                obtain ⟨ad272, A272_1, c272_1, e272, hx272_0, hx272_1, hl272_1, hi272_1⟩ := at_T66 HR1_1.out x5_2 p272 q272
                cases e272
                replace hx272_0 := (HB.out.cell (World.block_lt_of_cell? w _ hx272_0)).trans hx272_0
                replace hx272_1 := (HB.out.cell (World.block_lt_of_cell? w _ hx272_1)).trans hx272_1
                have HR272_1 := Aside0.mk hi272_1
                have HC272_1 := Aside0.mk hl272_1
                clear hi272_1 hl272_1
                replace p272 := eq_true p272
                replace q272 := eq_true q272
                go_wp2
                repeat (go_quiet (fail); try go_wp2)
                go_ret
                exact ⟨by first | rfl | (simp [errW_none, errW_some] <;> rfl) | (simp [*, errW_none, errW_some] <;> rfl), by repeat (first | (with_reducible first | exact HB.out | apply below_alloc | apply pw_below_drewN | apply below_drew1 | refine below_set ?_ GE268.out | refine below_set ?_ GE269.out) | exact HB.out)⟩
              rw [if_pos c22] at H
              have c22b0 : (((rd_T66 l0_1 x5_2).f0) == ((rd_T66 l1_1 x5_2).f0)) = true := beq_iff_eq.mpr c22
              have c22b1 : (((rd_T66 l0_1 x5_2).f0) != ((rd_T66 l1_1 x5_2).f0)) = false := bne_eq_false_iff_eq.mpr c22
              clear c22
              by_cases c23 : (strOfNums ((rd_T66 l0_1 x5_2).f1)).toList = (strOfNums ((rd_T66 l1_1 x5_2).f1)).toList
              rotate_left
              · rw [if_neg c23] at H
                have c23b0 : ((strOfNums ((rd_T66 l0_1 x5_2).f1)).toList == (strOfNums ((rd_T66 l1_1 x5_2).f1)).toList) = false := beq_eq_false_iff_ne.mpr c23
                have c23b1 : ((strOfNums ((rd_T66 l0_1 x5_2).f1)).toList != (strOfNums ((rd_T66 l1_1 x5_2).f1)).toList) = true := bne_iff_ne.mpr c23
                obtain rfl := Option.some.inj H
                have hnb31 := NB268_269.out
                have hnc31 := NB269_268.out
                have hcz32_0 : wr.cell? ⟨gb268, 0, none⟩ = some (.int .u64 a0_0) := (blk_cell BK268.out 0).trans rfl
                have hcz32_1 : wr.cell? ⟨gb268, 1, none⟩ = some (.slice A0_1 l0_1.length c0_1) := (blk_cell BK268.out 1).trans rfl
                have hcz32_2 : wr.cell? ⟨gb268, 2, none⟩ = some (.slice A0_2 l0_2.length c0_2) := (blk_cell BK268.out 2).trans rfl
                have hfz32_0 := blk_frozen BK268.out 0
                have hfz32_1 := blk_frozen BK268.out 1
                have hfz32_2 := blk_frozen BK268.out 2
                have p271 : 0 ≤ (x5_2 : Int) := of_decide_eq_true (by first | (with_reducible assumption) | assumption)
                have q271 : x5_2 < (l0_1.length : Int) := of_decide_eq_true (by first | (with_reducible assumption) | assumption)
                obtain ⟨ad271, A271_1, c271_1, e271, hx271_0, hx271_1, hl271_1, hi271_1⟩ := at_T66 HR0_1.out x5_2 p271 q271
                cases e271
                replace hx271_0 := (HB.out.cell (World.block_lt_of_cell? w _ hx271_0)).trans hx271_0
                replace hx271_1 := (HB.out.cell (World.block_lt_of_cell? w _ hx271_1)).trans hx271_1
                have HR271_1 := Aside0.mk hi271_1
                have HC271_1 := Aside0.mk hl271_1
                clear hi271_1 hl271_1
                replace p271 := eq_true p271
                replace q271 := eq_true q271
                have hcz33_0 : wr.cell? ⟨gb269, 0, none⟩ = some (.int .u64 a1_0) := (blk_cell BK269.out 0).trans rfl
                have hcz33_1 : wr.cell? ⟨gb269, 1, none⟩ = some (.slice A1_1 l1_1.length c1_1) := (blk_cell BK269.out 1).trans rfl
                have hcz33_2 : wr.cell? ⟨gb269, 2, none⟩ = some (.slice A1_2 l1_2.length c1_2) := (blk_cell BK269.out 2).trans rfl
                have hfz33_0 := blk_frozen BK269.out 0
                have hfz33_1 := blk_frozen BK269.out 1
                have hfz33_2 := blk_frozen BK269.out 2
                have p272 : 0 ≤ (x5_2 : Int) := of_decide_eq_true (by first | (with_reducible assumption) | assumption)
                have q272 : x5_2 < (l1_1.length : Int) := of_decide_eq_true (by first | (with_reducible assumption) | assumption)
                obtain ⟨ad272, A272_1, c272_1, e272, hx272_0, hx272_1, hl272_1, hi272_1⟩ := at_T66 HR1_1.out x5_2 p272 q272
                cases e272
                replace hx272_0 := (HB.out.cell (World.block_lt_of_cell? w _ hx272_0)).trans hx272_0
                replace hx272_1 := (HB.out.cell (World.block_lt_of_cell? w _ hx272_1)).trans hx272_1
                have HR272_1 := Aside0.mk hi272_1
                have HC272_1 := Aside0.mk hl272_1
                clear hi272_1 hl272_1
                replace p272 := eq_true p272
                replace q272 := eq_true q272
                have p273 : 0 ≤ (x5_2 : Int) := of_decide_eq_true (by first | (with_reducible assumption) | assumption)
                have q273 : x5_2 < (l0_1.length : Int) := of_decide_eq_true (by first | (with_reducible assumption) | assumption)
                obtain ⟨ad273, A273_1, c273_1, e273, hx273_0, hx273_1, hl273_1, hi273_1⟩ := at_T66 HR0_1.out x5_2 p273 q273
                obtain rfl : ad271 = ad273 := (by injection e273)
                replace hx273_0 := (HB.out.cell (World.block_lt_of_cell? w _ hx273_0)).trans hx273_0
                replace hx273_1 := (HB.out.cell (World.block_lt_of_cell? w _ hx273_1)).trans hx273_1
                have HR273_1 := Aside0.mk hi273_1
                have HC273_1 := Aside0.mk hl273_1
                clear hi273_1 hl273_1
                replace p273 := eq_true p273
                replace q273 := eq_true q273
                have ea_ := Option.some.inj (hx271_1.symm.trans hx273_1)
                injection ea_ with ea_ en_ ec_
                subst ea_
                subst ec_
                clear en_
                have hcv34 := Kd.C_string (P := Try.prog) (A := A271_1) (c := c271_1) Try.underlying22 Try.underlying5 Try.underlying9 (Kd.C_below HR273_1.out HB.out)
                have hcd35 := fun (nd_ : Nat) => Kd.C_string (P := Try.prog) (A := A271_1) (c := c271_1) Try.underlying22 Try.underlying5 Try.underlying9 (Kd.C_drewN (Kd.C_below HR273_1.out HB.out) nd_)
                have p274 : 0 ≤ (x5_2 : Int) := of_decide_eq_true (by first | (with_reducible assumption) | assumption)
                have q274 : x5_2 < (l1_1.length : Int) := of_decide_eq_true (by first | (with_reducible assumption) | assumption)
                obtain ⟨ad274, A274_1, c274_1, e274, hx274_0, hx274_1, hl274_1, hi274_1⟩ := at_T66 HR1_1.out x5_2 p274 q274
                obtain rfl : ad272 = ad274 := (by injection e274)
                replace hx274_0 := (HB.out.cell (World.block_lt_of_cell? w _ hx274_0)).trans hx274_0
                replace hx274_1 := (HB.out.cell (World.block_lt_of_cell? w _ hx274_1)).trans hx274_1
                have HR274_1 := Aside0.mk hi274_1
                have HC274_1 := Aside0.mk hl274_1
                clear hi274_1 hl274_1
                replace p274 := eq_true p274
                replace q274 := eq_true q274
                have ea_ := Option.some.inj (hx272_1.symm.trans hx274_1)
                injection ea_ with ea_ en_ ec_
                subst ea_
                subst ec_
                clear en_
                have hcv36 := Kd.C_string (P := Try.prog) (A := A272_1) (c := c272_1) Try.underlying22 Try.underlying5 Try.underlying9 (Kd.C_below HR274_1.out HB.out)
                have hcd37 := fun (nd_ : Nat) => Kd.C_string (P := Try.prog) (A := A272_1) (c := c272_1) Try.underlying22 Try.underlying5 Try.underlying9 (Kd.C_drewN (Kd.C_below HR274_1.out HB.out) nd_)
                go_wp2
                repeat (go_quiet (fail); try go_wp2)
                go_ret
                exact ⟨by first | rfl | (simp [errW_none, errW_some] <;> rfl) | (simp [*, errW_none, errW_some] <;> rfl), by repeat (first | (with_reducible first | exact HB.out | apply below_alloc | apply pw_below_drewN | apply below_drew1 | refine below_set ?_ GE268.out | refine below_set ?_ GE269.out) | exact HB.out)⟩
              rw [if_pos c23] at H
              have c23b0 : ((strOfNums ((rd_T66 l0_1 x5_2).f1)).toList == (strOfNums ((rd_T66 l1_1 x5_2).f1)).toList) = true := beq_iff_eq.mpr c23
              have c23b1 : ((strOfNums ((rd_T66 l0_1 x5_2).f1)).toList != (strOfNums ((rd_T66 l1_1 x5_2).f1)).toList) = false := bne_eq_false_iff_eq.mpr c23
              clear c23
              have H' := Aside0.mk H
              clear H
              have hnb24 := NB268_269.out
              have hnc24 := NB269_268.out
              have hcz25_0 : wr.cell? ⟨gb268, 0, none⟩ = some (.int .u64 a0_0) := (blk_cell BK268.out 0).trans rfl
              have hcz25_1 : wr.cell? ⟨gb268, 1, none⟩ = some (.slice A0_1 l0_1.length c0_1) := (blk_cell BK268.out 1).trans rfl
              have hcz25_2 : wr.cell? ⟨gb268, 2, none⟩ = some (.slice A0_2 l0_2.length c0_2) := (blk_cell BK268.out 2).trans rfl
              have hfz25_0 := blk_frozen BK268.out 0
              have hfz25_1 := blk_frozen BK268.out 1
              have hfz25_2 := blk_frozen BK268.out 2
              have p271 : 0 ≤ (x5_2 : Int) := of_decide_eq_true (by first | (with_reducible assumption) | assumption)
              have q271 : x5_2 < (l0_1.length : Int) := of_decide_eq_true (by first | (with_reducible assumption) | assumption)
              obtain ⟨ad271, A271_1, c271_1, e271, hx271_0, hx271_1, hl271_1, hi271_1⟩ := at_T66 HR0_1.out x5_2 p271 q271
              cases e271
              replace hx271_0 := (HB.out.cell (World.block_lt_of_cell? w _ hx271_0)).trans hx271_0
              replace hx271_1 := (HB.out.cell (World.block_lt_of_cell? w _ hx271_1)).trans hx271_1
              have HR271_1 := Aside0.mk hi271_1
              have HC271_1 := Aside0.mk hl271_1
              clear hi271_1 hl271_1
              replace p271 := eq_true p271
              replace q271 := eq_true q271
              have hcz26_0 : wr.cell? ⟨gb269, 0, none⟩ = some (.int .u64 a1_0) := (blk_cell BK269.out 0).trans rfl
              have hcz26_1 : wr.cell? ⟨gb269, 1, none⟩ = some (.slice A1_1 l1_1.length c1_1) := (blk_cell BK269.out 1).trans rfl
              have hcz26_2 : wr.cell? ⟨gb269, 2, none⟩ = some (.slice A1_2 l1_2.length c1_2) := (blk_cell BK269.out 2).trans rfl
              have hfz26_0 := blk_frozen BK269.out 0
              have hfz26_1 := blk_frozen BK269.out 1
              have hfz26_2 := blk_frozen BK269.out 2
              have p272 : 0 ≤ (x5_2 : Int) := of_decide_eq_true (by first | (with_reducible assumption) | assumption)
              have q272 : x5_2 < (l1_1.length : Int) := of_decide_eq_true (by first | (with_reducible assumption) | assumption)
              obtain ⟨ad272, A272_1, c272_1, e272, hx272_0, hx272_1, hl272_1, hi272_1⟩ := at_T66 HR1_1.out x5_2 p272 q272
              cases e272
              replace hx272_0 := (HB.out.cell (World.block_lt_of_cell? w _ hx272_0)).trans hx272_0
              replace hx272_1 := (HB.out.cell (World.block_lt_of_cell? w _ hx272_1)).trans hx272_1
              have HR272_1 := Aside0.mk hi272_1
              have HC272_1 := Aside0.mk hl272_1
              clear hi272_1 hl272_1
              replace p272 := eq_true p272
              replace q272 := eq_true q272
              have p273 : 0 ≤ (x5_2 : Int) := of_decide_eq_true (by first | (with_reducible assumption) | assumption)
              have q273 : x5_2 < (l0_1.length : Int) := of_decide_eq_true (by first | (with_reducible assumption) | assumption)
              obtain ⟨ad273, A273_1, c273_1, e273, hx273_0, hx273_1, hl273_1, hi273_1⟩ := at_T66 HR0_1.out x5_2 p273 q273
              obtain rfl : ad271 = ad273 := (by injection e273)
              replace hx273_0 := (HB.out.cell (World.block_lt_of_cell? w _ hx273_0)).trans hx273_0
              replace hx273_1 := (HB.out.cell (World.block_lt_of_cell? w _ hx273_1)).trans hx273_1
              have HR273_1 := Aside0.mk hi273_1
              have HC273_1 := Aside0.mk hl273_1
              clear hi273_1 hl273_1
              replace p273 := eq_true p273
              replace q273 := eq_true q273
              have ea_ := Option.some.inj (hx271_1.symm.trans hx273_1)
              injection ea_ with ea_ en_ ec_
              subst ea_
              subst ec_
              clear en_
              have hcv27 := Kd.C_string (P := Try.prog) (A := A271_1) (c := c271_1) Try.underlying22 Try.underlying5 Try.underlying9 (Kd.C_below HR273_1.out HB.out)
              have hcd28 := fun (nd_ : Nat) => Kd.C_string (P := Try.prog) (A := A271_1) (c := c271_1) Try.underlying22 Try.underlying5 Try.underlying9 (Kd.C_drewN (Kd.C_below HR273_1.out HB.out) nd_)
              have p274 : 0 ≤ (x5_2 : Int) := of_decide_eq_true (by first | (with_reducible assumption) | assumption)
              have q274 : x5_2 < (l1_1.length : Int) := of_decide_eq_true (by first | (with_reducible assumption) | assumption)
              obtain ⟨ad274, A274_1, c274_1, e274, hx274_0, hx274_1, hl274_1, hi274_1⟩ := at_T66 HR1_1.out x5_2 p274 q274
              obtain rfl : ad272 = ad274 := (by injection e274)
              replace hx274_0 := (HB.out.cell (World.block_lt_of_cell? w _ hx274_0)).trans hx274_0
              replace hx274_1 := (HB.out.cell (World.block_lt_of_cell? w _ hx274_1)).trans hx274_1
              have HR274_1 := Aside0.mk hi274_1
              have HC274_1 := Aside0.mk hl274_1
              clear hi274_1 hl274_1
              replace p274 := eq_true p274
              replace q274 := eq_true q274
              have ea_ := Option.some.inj (hx272_1.symm.trans hx274_1)
              injection ea_ with ea_ en_ ec_
              subst ea_
              subst ec_
              clear en_
              have hcv29 := Kd.C_string (P := Try.prog) (A := A272_1) (c := c272_1) Try.underlying22 Try.underlying5 Try.underlying9 (Kd.C_below HR274_1.out HB.out)
              have hcd30 := fun (nd_ : Nat) => Kd.C_string (P := Try.prog) (A := A272_1) (c := c272_1) Try.underlying22 Try.underlying5 Try.underlying9 (Kd.C_drewN (Kd.C_below HR274_1.out HB.out) nd_)
              go_wp2
              repeat (go_quiet (fail); try go_wp2)
              go_roundg k2
              case measure => have := HJ2.out; have := HK2.out; omega
              case rel => exact ⟨(wrap64 (x5_2 + 1)), (by first | rfl | (simp; done) | (simp [*]; done)), H', ⟨by have := HJ2.out; have := HK2.out; omega⟩, ⟨by (with_reducible repeat (first | refine blk_drewN ?_ _ | refine blk_drew ?_ | refine blk_alloc ?_ _)); exact BK268.out⟩, ⟨by (with_reducible repeat (first | refine blk_drewN ?_ _ | refine blk_drew ?_ | refine blk_alloc ?_ _)); exact BK269.out⟩, ⟨by repeat (first | (with_reducible first | exact HB.out | apply below_alloc | apply pw_below_drewN | apply below_drew1 | refine below_set ?_ GE268.out | refine below_set ?_ GE269.out) | exact HB.out)⟩⟩
            · rw [if_neg c19] at H
              have c19b0 : decide (x5_2 < (l0_1.length : Int)) = false := decide_eq_false c19
              clear c19
              obtain rfl := Option.some.inj H
              have hnb41 := NB268_269.out
              have hnc41 := NB269_268.out
              have hcz42_0 : wr.cell? ⟨gb268, 0, none⟩ = some (.int .u64 a0_0) := (blk_cell BK268.out 0).trans rfl
              have hcz42_1 : wr.cell? ⟨gb268, 1, none⟩ = some (.slice A0_1 l0_1.length c0_1) := (blk_cell BK268.out 1).trans rfl
              have hcz42_2 : wr.cell? ⟨gb268, 2, none⟩ = some (.slice A0_2 l0_2.length c0_2) := (blk_cell BK268.out 2).trans rfl
              have hfz42_0 := blk_frozen BK268.out 0
              have hfz42_1 := blk_frozen BK268.out 1
              have hfz42_2 := blk_frozen BK268.out 2
              go_wp2
              repeat (go_quiet (fail); try go_wp2)
              go_ret
              exact ⟨by first | rfl | (simp [errW_none, errW_some] <;> rfl) | (simp [*, errW_none, errW_some] <;> rfl), by repeat (first | (with_reducible first | exact HB.out | apply below_alloc | apply pw_below_drewN | apply below_drew1 | refine below_set ?_ GE268.out | refine below_set ?_ GE269.out) | exact HB.out)⟩
end Go.Proofs.Ytlbfpjhnpnbikaa.U
