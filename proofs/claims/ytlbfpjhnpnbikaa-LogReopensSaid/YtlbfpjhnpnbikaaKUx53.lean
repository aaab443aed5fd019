/- Ux53: what this claim uses. Laid by slim.py (ours). -/
import Derived.Test.YtlbfpjhnpnbikaaKUx0
import Derived.Test.YtlbfpjhnpnbikaaKUx26
import Derived.Test.YtlbfpjhnpnbikaaKUx29
import Derived.Test.YtlbfpjhnpnbikaaKUx50
import Derived.Test.YtlbfpjhnpnbikaaKUx52
namespace Go.Proofs.Ytlbfpjhnpnbikaa.U
open Go.RowKit Go.Proofs.YtlbfpjhnpnbikaaW.PrintWords Go.Proofs.YtlbfpjhnpnbikaaW.PrintLast Go.Proofs.YtlbfpjhnpnbikaaW.PrintMore
attribute [local go_sem] max2_int min2_int max_two min_two max_three min_three max_four min_four
set_option linter.unusedVariables false
set_option linter.unusedSimpArgs false
def undercroftref03_Encode.l2 : Nat → List Int → Int → Int → List (S66) → List Int → Option (List Int × Int)
  | 0, _, _, _, _, _ => none
  | k + 1, x8, x9, x192000, x192001, x192002 => if x9 < (x192001.length : Int) then (if 0 ≤ x9 then ((undercroftref03_looks.f ((rd_T66 x192001 x9).f1)).bind fun t234 => (if t234 = true then ((some (([0, 0, 0, 0] : List Int) : List Int)).bind fun y235 => (if x8.length + y235.length < 140737488355328 then ((some (x8 ++ y235 : List Int)).bind fun y238 => (if 4 ≤ (((rd_T66 x192001 x9).f1).length : Int) then (if y238.length + (((rd_T66 x192001 x9).f1).drop 4).length < 140737488355328 then (undercroftref03_Encode.l2 k (y238 ++ (((rd_T66 x192001 x9).f1).drop 4)) (wrap64 (x9 + 1)) x192000 x192001 x192002) else (none)) else (none))) else (none))) else (if x8.length + ((rd_T66 x192001 x9).f1).length < 140737488355328 then (undercroftref03_Encode.l2 k (x8 ++ ((rd_T66 x192001 x9).f1)) (wrap64 (x9 + 1)) x192000 x192001 x192002) else (none)))) else (none)) else ((undercroftref03_head.f k 2 x192000).bind fun t250 => ((undercroftref01_Sum.f k x8).bind fun t253 => ((undercroftref01_Bytes.f k (IntKind.u64.wrap (t253)) 4).bind fun t254 => (if t250.length + t254.length < 140737488355328 then ((undercroftref03_sealed.f k (t250 ++ t254)).bind fun t260 => (if x8.length + t260.length < 140737488355328 then (some ((x8 ++ t260), 0)) else (none))) else (none)))))
def undercroftref03_Encode.l1 : Nat → List Int → Int → Int → List (S66) → List Int → Option (List Int × Int)
  | 0, _, _, _, _, _ => none
  | k + 1, x4, x7, x192000, x192001, x192002 => if x7 < (x192002.length : Int) then (if 0 ≤ x7 then ((undercroftref01_Bytes.f k (IntKind.u64.wrap (rd x192002 x7)) 4).bind fun t224 => (if x4.length + t224.length < 140737488355328 then (undercroftref03_Encode.l1 k (x4 ++ t224) (wrap64 (x7 + 1)) x192000 x192001 x192002) else (none))) else (none)) else ((undercroftref03_sealed.f k x4).bind fun t230 => (undercroftref03_Encode.l2 k t230 0 x192000 x192001 x192002))
def undercroftref03_Encode.l0 : Nat → List Int → Int → Int → List (S66) → List Int → Option (List Int × Int)
  | 0, _, _, _, _, _ => none
  | k + 1, x4, x5, x192000, x192001, x192002 => if x5 < (x192001.length : Int) then (if 0 ≤ x5 then ((undercroftref03_looks.f ((rd_T66 x192001 x5).f1)).bind fun t210 => (if t210 = true then ((undercroftref01_Bytes.f k (IntKind.u64.wrap ((IntKind.u64.wrap ((rd_T66 x192001 x5).f0)) + 2147483648)) 4).bind fun t211 => (if x4.length + t211.length < 140737488355328 then (undercroftref03_Encode.l0 k (x4 ++ t211) (wrap64 (x5 + 1)) x192000 x192001 x192002) else (none))) else ((undercroftref01_Bytes.f k (IntKind.u64.wrap ((rd_T66 x192001 x5).f0)) 4).bind fun t217 => (if x4.length + t217.length < 140737488355328 then (undercroftref03_Encode.l0 k (x4 ++ t217) (wrap64 (x5 + 1)) x192000 x192001 x192002) else (none))))) else (none)) else (undercroftref03_Encode.l1 k x4 0 x192000 x192001 x192002)
def undercroftref03_Encode.f (k : Nat) (a0_0 : Int) (l0_1 : List (S66)) (l0_2 : List Int) : Option (List Int × Int) := (undercroftref03_May.f a0_0 l0_1 l0_2).bind fun t192 => (if t192 = true then ((undercroftref03_head.f k 1 a0_0).bind fun t193 => ((undercroftref01_Bytes.f k (IntKind.u64.wrap ((l0_1.length : Int))) 2).bind fun t196 => (if t193.length + t196.length < 140737488355328 then ((some (t193 ++ t196 : List Int)).bind fun y199 => ((undercroftref01_Bytes.f k (IntKind.u64.wrap ((l0_2.length : Int))) 2).bind fun t202 => (if y199.length + t202.length < 140737488355328 then (undercroftref03_Encode.l0 k (y199 ++ t202) 0 a0_0 l0_1 l0_2) else (none)))) else (none)))) else (some (([] : List Int), 17)))
theorem undercroftref03_Encode.mono_l : ∀ k, (∀ y0 y1 y2 y3 y4, LeO (undercroftref03_Encode.l0 k y0 y1 y2 y3 y4) (undercroftref03_Encode.l0 (k + 1) y0 y1 y2 y3 y4)) ∧ (∀ y0 y1 y2 y3 y4, LeO (undercroftref03_Encode.l1 k y0 y1 y2 y3 y4) (undercroftref03_Encode.l1 (k + 1) y0 y1 y2 y3 y4)) ∧ (∀ y0 y1 y2 y3 y4, LeO (undercroftref03_Encode.l2 k y0 y1 y2 y3 y4) (undercroftref03_Encode.l2 (k + 1) y0 y1 y2 y3 y4))
  | 0 => ⟨fun _ _ _ _ _ r h => by simp [undercroftref03_Encode.l0] at h, fun _ _ _ _ _ r h => by simp [undercroftref03_Encode.l1] at h, fun _ _ _ _ _ r h => by simp [undercroftref03_Encode.l2] at h⟩
  | k + 1 => by
    obtain ⟨ih0, ih1, ih2⟩ := undercroftref03_Encode.mono_l k
    refine ⟨?_, ?_, ?_⟩
    · intro y0 y1 y2 y3 y4
      unfold undercroftref03_Encode.l0
      repeat' first
      | (with_reducible exact ih0 _ _ _ _ _)
      | (with_reducible exact ih1 _ _ _ _ _)
      | (with_reducible exact ih2 _ _ _ _ _)
      | (with_reducible exact undercroftref01_Bytes.mono _ _ _)
      | (with_reducible exact undercroftref01_Sum.mono _ _)
      | (with_reducible exact undercroftref03_head.mono _ _ _)
      | (with_reducible exact undercroftref03_sealed.mono _ _)
      | (with_reducible exact LeO.refl _)
      | (with_reducible exact LeO.none _)
      | (with_reducible refine LeO.ite ?_ ?_)
      | (with_reducible refine LeO.bind ?_ (fun _ => ?_))
      | exact ih0 _ _ _ _ _
      | exact ih1 _ _ _ _ _
      | exact ih2 _ _ _ _ _
      | exact undercroftref01_Bytes.mono _ _ _
      | exact undercroftref01_Sum.mono _ _
      | exact undercroftref03_head.mono _ _ _
      | exact undercroftref03_sealed.mono _ _
      | exact LeO.none _
      | refine LeO.ite ?_ ?_
      | refine LeO.bind ?_ (fun _ => ?_)
    · intro y0 y1 y2 y3 y4
      unfold undercroftref03_Encode.l1
      repeat' first
      | (with_reducible exact ih0 _ _ _ _ _)
      | (with_reducible exact ih1 _ _ _ _ _)
      | (with_reducible exact ih2 _ _ _ _ _)
      | (with_reducible exact undercroftref01_Bytes.mono _ _ _)
      | (with_reducible exact undercroftref01_Sum.mono _ _)
      | (with_reducible exact undercroftref03_head.mono _ _ _)
      | (with_reducible exact undercroftref03_sealed.mono _ _)
      | (with_reducible exact LeO.refl _)
      | (with_reducible exact LeO.none _)
      | (with_reducible refine LeO.ite ?_ ?_)
      | (with_reducible refine LeO.bind ?_ (fun _ => ?_))
      | exact ih0 _ _ _ _ _
      | exact ih1 _ _ _ _ _
      | exact ih2 _ _ _ _ _
      | exact undercroftref01_Bytes.mono _ _ _
      | exact undercroftref01_Sum.mono _ _
      | exact undercroftref03_head.mono _ _ _
      | exact undercroftref03_sealed.mono _ _
      | exact LeO.none _
      | refine LeO.ite ?_ ?_
      | refine LeO.bind ?_ (fun _ => ?_)
    · intro y0 y1 y2 y3 y4
      unfold undercroftref03_Encode.l2
      repeat' first
      | (with_reducible exact ih0 _ _ _ _ _)
      | (with_reducible exact ih1 _ _ _ _ _)
      | (with_reducible exact ih2 _ _ _ _ _)
      | (with_reducible exact undercroftref01_Bytes.mono _ _ _)
      | (with_reducible exact undercroftref01_Sum.mono _ _)
      | (with_reducible exact undercroftref03_head.mono _ _ _)
      | (with_reducible exact undercroftref03_sealed.mono _ _)
      | (with_reducible exact LeO.refl _)
      | (with_reducible exact LeO.none _)
      | (with_reducible refine LeO.ite ?_ ?_)
      | (with_reducible refine LeO.bind ?_ (fun _ => ?_))
      | exact ih0 _ _ _ _ _
      | exact ih1 _ _ _ _ _
      | exact ih2 _ _ _ _ _
      | exact undercroftref01_Bytes.mono _ _ _
      | exact undercroftref01_Sum.mono _ _
      | exact undercroftref03_head.mono _ _ _
      | exact undercroftref03_sealed.mono _ _
      | exact LeO.none _
      | refine LeO.ite ?_ ?_
      | refine LeO.bind ?_ (fun _ => ?_)
theorem undercroftref03_Encode.mono : ∀ a0 a1 a2 k, LeO (undercroftref03_Encode.f k a0 a1 a2) (undercroftref03_Encode.f (k + 1) a0 a1 a2) := by
  intro a0 a1 a2 k
  obtain ⟨ih0, ih1, ih2⟩ := undercroftref03_Encode.mono_l k
  unfold undercroftref03_Encode.f
  repeat' first
      | (with_reducible exact ih0 _ _ _ _ _)
      | (with_reducible exact ih1 _ _ _ _ _)
      | (with_reducible exact ih2 _ _ _ _ _)
      | (with_reducible exact undercroftref01_Bytes.mono _ _ _)
      | (with_reducible exact undercroftref01_Sum.mono _ _)
      | (with_reducible exact undercroftref03_head.mono _ _ _)
      | (with_reducible exact undercroftref03_sealed.mono _ _)
      | (with_reducible exact LeO.refl _)
      | (with_reducible exact LeO.none _)
      | (with_reducible refine LeO.ite ?_ ?_)
      | (with_reducible refine LeO.bind ?_ (fun _ => ?_))
      | exact ih0 _ _ _ _ _
      | exact ih1 _ _ _ _ _
      | exact ih2 _ _ _ _ _
      | exact undercroftref01_Bytes.mono _ _ _
      | exact undercroftref01_Sum.mono _ _
      | exact undercroftref03_head.mono _ _ _
      | exact undercroftref03_sealed.mono _ _
      | exact LeO.none _
      | refine LeO.ite ?_ ?_
      | refine LeO.bind ?_ (fun _ => ?_)
set_option maxHeartbeats 8000000 in
set_option maxRecDepth 100000 in
theorem undercroftref03_Encode.calls (k : Nat) (a0_0 : Int) (A0_1 : Option Addr) (c0_1 : Nat) (l0_1 : List (S66)) (A0_2 : Option Addr) (c0_2 : Nat) (l0_2 : List Int) (r1 : List Int) (r2 : Int) (w : World) (hr0_1 : Kd.C k66 w A0_1 l0_1.length l0_1) (hc0_1 : l0_1.length ≤ c0_1) (hr0_2 : Kd.C (Kd.int .i64) w A0_2 l0_2.length l0_2) (hc0_2 : l0_2.length ≤ c0_2) (h : undercroftref03_Encode.f k a0_0 l0_1 l0_2 = some (r1, r2)) :
    Calls Try.prog 76 #[.agg #[.int .u64 a0_0, .slice A0_1 l0_1.length c0_1, .slice A0_2 l0_2.length c0_2]] w fun e w' => ∃ v0_ : Value, e = .returned (.tuple #[v0_, .int .i64 r2]) ∧ Kd.R (Kd.int .u8) 5 w' w.heap.size (fun _ => True) v0_ r1 ∧ Below w.heap.size w w' := by
  have hu60 := Try.underlying60
  have HR0_1 := Aside0.mk hr0_1
  have HC0_1 := Aside0.mk hc0_1
  clear hr0_1 hc0_1
  have HR0_2 := Aside0.mk hr0_2
  have HC0_2 := Aside0.mk hc0_2
  clear hr0_2 hc0_2
  have HB := Aside0.mk (Below.refl w.heap.size w)
  have H : ((undercroftref03_May.f a0_0 l0_1 l0_2).bind fun t192 => (if t192 = true then ((undercroftref03_head.f k 1 a0_0).bind fun t193 => ((undercroftref01_Bytes.f k (IntKind.u64.wrap ((l0_1.length : Int))) 2).bind fun t196 => (if t193.length + t196.length < 140737488355328 then ((some (t193 ++ t196 : List Int)).bind fun y199 => ((undercroftref01_Bytes.f k (IntKind.u64.wrap ((l0_2.length : Int))) 2).bind fun t202 => (if y199.length + t202.length < 140737488355328 then (undercroftref03_Encode.l0 k (y199 ++ t202) 0 a0_0 l0_1 l0_2) else (none)))) else (none)))) else (some (([] : List Int), 17)))) = some (r1, r2) := h
  clear h
  replace H := Option.bind_eq_some_iff.mp H
  obtain ⟨t192, A20, H⟩ := H
  replace H : (if t192 = true then ((undercroftref03_head.f k 1 a0_0).bind fun t193 => ((undercroftref01_Bytes.f k (IntKind.u64.wrap ((l0_1.length : Int))) 2).bind fun t196 => (if t193.length + t196.length < 140737488355328 then ((some (t193 ++ t196 : List Int)).bind fun y199 => ((undercroftref01_Bytes.f k (IntKind.u64.wrap ((l0_2.length : Int))) 2).bind fun t202 => (if y199.length + t202.length < 140737488355328 then (undercroftref03_Encode.l0 k (y199 ++ t202) 0 a0_0 l0_1 l0_2) else (none)))) else (none)))) else (some (([] : List Int), 17))) = some (r1, r2) := H
  have A2 := Aside0.mk A20
  clear A20
  by_cases c3 : t192 = true
  · subst c3
    have H1 : ((undercroftref03_head.f k 1 a0_0).bind fun t193 => ((undercroftref01_Bytes.f k (IntKind.u64.wrap ((l0_1.length : Int))) 2).bind fun t196 => (if t193.length + t196.length < 140737488355328 then ((some (t193 ++ t196 : List Int)).bind fun y199 => ((undercroftref01_Bytes.f k (IntKind.u64.wrap ((l0_2.length : Int))) 2).bind fun t202 => (if y199.length + t202.length < 140737488355328 then (undercroftref03_Encode.l0 k (y199 ++ t202) 0 a0_0 l0_1 l0_2) else (none)))) else (none)))) = some (r1, r2) := by rw [if_pos rfl] at H; exact H
    clear H
    have H := H1
    clear H1
    replace H := Option.bind_eq_some_iff.mp H
    obtain ⟨t193, A40, H⟩ := H
    replace H : ((undercroftref01_Bytes.f k (IntKind.u64.wrap ((l0_1.length : Int))) 2).bind fun t196 => (if t193.length + t196.length < 140737488355328 then ((some (t193 ++ t196 : List Int)).bind fun y199 => ((undercroftref01_Bytes.f k (IntKind.u64.wrap ((l0_2.length : Int))) 2).bind fun t202 => (if y199.length + t202.length < 140737488355328 then (undercroftref03_Encode.l0 k (y199 ++ t202) 0 a0_0 l0_1 l0_2) else (none)))) else (none))) = some (r1, r2) := H
    have A4 := Aside0.mk A40
    clear A40
    replace H := Option.bind_eq_some_iff.mp H
    obtain ⟨t196, A50, H⟩ := H
    replace H : (if t193.length + t196.length < 140737488355328 then ((some (t193 ++ t196 : List Int)).bind fun y199 => ((undercroftref01_Bytes.f k (IntKind.u64.wrap ((l0_2.length : Int))) 2).bind fun t202 => (if y199.length + t202.length < 140737488355328 then (undercroftref03_Encode.l0 k (y199 ++ t202) 0 a0_0 l0_1 l0_2) else (none)))) else (none)) = some (r1, r2) := H
    have A5 := Aside0.mk A50
    clear A50
    by_cases c6 : t193.length + t196.length < 140737488355328
    rotate_left
    · rw [if_neg c6] at H
      exact absurd H (by simp)
    rw [if_pos c6] at H
    have LMc6 := Aside0.mk c6
    clear c6
    obtain ⟨y199, hy199⟩ : ∃ y_ : List Int, y_ = (t193 ++ t196) := ⟨_, rfl⟩
    replace H : ((undercroftref01_Bytes.f k (IntKind.u64.wrap ((l0_2.length : Int))) 2).bind fun t202 => (if y199.length + t202.length < 140737488355328 then (undercroftref03_Encode.l0 k (y199 ++ t202) 0 a0_0 l0_1 l0_2) else (none))) = some (r1, r2) := by first | (rw [hy199]; with_reducible exact H) | (have H2_ := (Option.bind_some _ _).symm.trans H; rw [hy199]; with_reducible exact H2_) | (have H2_ := (Option.bind_some _ _).symm.trans H; with_reducible exact H2_) | with_reducible exact H | (rw [hy199]; exact H) | exact H
    have Ny199 := Aside0.mk hy199
    clear hy199
    replace H := Option.bind_eq_some_iff.mp H
    obtain ⟨t202, A70, H⟩ := H
    replace H : (if y199.length + t202.length < 140737488355328 then (undercroftref03_Encode.l0 k (y199 ++ t202) 0 a0_0 l0_1 l0_2) else (none)) = some (r1, r2) := H
    have A7 := Aside0.mk A70
    clear A70
    by_cases c8 : y199.length + t202.length < 140737488355328
    rotate_left
    · rw [if_neg c8] at H
      exact absurd H (by simp)
    rw [if_pos c8] at H
    have LMc8 := Aside0.mk c8
    clear c8
    obtain ⟨y205, hy205⟩ : ∃ y_ : List Int, y_ = (y199 ++ t202) := ⟨_, rfl⟩
    replace H : (undercroftref03_Encode.l0 k y205 0 a0_0 l0_1 l0_2) = some (r1, r2) := by first | (rw [hy205]; with_reducible exact H) | (have H2_ := (Option.bind_some _ _).symm.trans H; rw [hy205]; with_reducible exact H2_) | (have H2_ := (Option.bind_some _ _).symm.trans H; with_reducible exact H2_) | with_reducible exact H | (rw [hy205]; exact H) | exact H
    have Ny205 := Aside0.mk hy205
    clear hy205
    have H' := Aside0.mk H
    clear H
    go_enter Try.func76, Try.ntmps76
    go_wp2_with (first | ((with_reducible refine gate_dst (N := 1) rfl ?_); refine box_event ?hg (N := 1) ?hd (cs := #[.int .u64 a0_0, .slice A0_1 l0_1.length c0_1, .slice A0_2 l0_2.length c0_2]) (t := 60) ?hr ?_; (case hd => rfl); (case hg => rfl); (case hr => go_simp; first | done | rfl); intro gb191 hg w9 hbox hb; have n0_ := Aside0.mk (below_step (by repeat (first | (with_reducible first | exact HB.out | apply below_alloc | apply pw_below_drewN | apply below_drew1) | exact HB.out)) hb); have n1_ := Aside0.mk (hbox); have n2_ := Aside0.mk ((by rw [hg]; exact (below_size (by repeat (first | (with_reducible first | exact HB.out | apply below_alloc | apply pw_below_drewN | apply below_drew1) | exact HB.out))) : w.heap.size ≤ gb191)); have n3_ := Aside0.mk ((by rw [hg]; exact (below_size (by repeat (first | (with_reducible first | exact HB.out | apply below_alloc | apply pw_below_drewN | apply below_drew1) | exact HB.out))) : w.heap.size ≤ gb191)); clear HB; have HB := n0_; have BK191 := n1_; have GW191 := n2_; have GE191 := n3_; clear n0_ n1_ n2_ n3_; clear hb hbox hg; have hcz10_0 : w9.cell? ⟨gb191, 0, none⟩ = some (.int .u64 a0_0) := (blk_cell BK191.out 0).trans rfl; have hcz10_1 : w9.cell? ⟨gb191, 1, none⟩ = some (.slice A0_1 l0_1.length c0_1) := (blk_cell BK191.out 1).trans rfl; have hcz10_2 : w9.cell? ⟨gb191, 2, none⟩ = some (.slice A0_2 l0_2.length c0_2) := (blk_cell BK191.out 2).trans rfl; have hfz10_0 := blk_frozen BK191.out 0; have hfz10_1 := blk_frozen BK191.out 1; have hfz10_2 := blk_frozen BK191.out 2) | ((with_reducible refine gate_callee (f := 83) rfl ?_); refine goesL_ (some 12) rfl rfl Try.func83 (by kernel_rfl) rfl #[.agg #[.int .u64 a0_0, .slice A0_1 l0_1.length c0_1, .slice A0_2 l0_2.length c0_2]] rfl (by (try simp only [List.map_toArray, List.map_cons, List.map_nil]); first | done | rfl | (simp only [List.length_drop, List.length_take]; rfl)) ?_; (with_reducible refine (undercroftref03_May.calls a0_0 _ _ l0_1 _ _ l0_2 true _ ?side1 ?side2 ?side3 ?side4 A2.out).mono ?_); (case side1 => repeat (first | exact (Kd.C_below HR0_1.out HB.out) | (with_reducible refine Kd.C_alloc ?_ _) | (with_reducible refine Kd.C_drewN ?_ _) | (with_reducible refine Kd.C_drew ?_))); (case side2 => exact HC0_1.out); (case side3 => repeat (first | exact (Kd.C_below HR0_2.out HB.out) | (with_reducible refine Kd.C_alloc ?_ _) | (with_reducible refine Kd.C_drewN ?_ _) | (with_reducible refine Kd.C_drew ?_))); (case side4 => exact HC0_2.out); rintro e w11 ⟨rfl, hb⟩; refine ⟨_, rfl, ?_⟩; have n0_ := Aside0.mk (blk_below (g := gb191) (o := .cells #[.int .u64 a0_0, .slice A0_1 l0_1.length c0_1, .slice A0_2 l0_2.length c0_2] 60 (0, 0)) (by (with_reducible repeat (first | refine blk_drewN ?_ _ | refine blk_drew ?_ | refine blk_alloc ?_ _)); exact BK191.out) hb); have n1_ := Aside0.mk (below_step (by repeat (first | (with_reducible first | exact HB.out | apply below_alloc | apply pw_below_drewN | apply below_drew1 | refine below_set ?_ GE191.out) | exact HB.out)) hb); clear BK191; clear HB; have BK191 := n0_; have HB := n1_; clear n0_ n1_; (try clear hb); (try clear hb2); (try clear hk); (try clear hi); have hcz12_0 : w11.cell? ⟨gb191, 0, none⟩ = some (.int .u64 a0_0) := (blk_cell BK191.out 0).trans rfl; have hcz12_1 : w11.cell? ⟨gb191, 1, none⟩ = some (.slice A0_1 l0_1.length c0_1) := (blk_cell BK191.out 1).trans rfl; have hcz12_2 : w11.cell? ⟨gb191, 2, none⟩ = some (.slice A0_2 l0_2.length c0_2) := (blk_cell BK191.out 2).trans rfl; have hfz12_0 := blk_frozen BK191.out 0; have hfz12_1 := blk_frozen BK191.out 1; have hfz12_2 := blk_frozen BK191.out 2) | ((with_reducible refine gate_callee (f := 84) rfl ?_); refine goesL_ (some 16) rfl rfl Try.func84 (by kernel_rfl) rfl #[.int .u8 1, .int .u64 a0_0] rfl (by (try simp only [List.map_toArray, List.map_cons, List.map_nil]); first | done | rfl | (simp only [List.length_drop, List.length_take]; rfl)) ?_; (with_reducible refine (undercroftref03_head.calls k 1 a0_0 t193 _ A4.out).mono ?_); rintro e w13 ⟨v194, rfl, ho0, hb⟩; refine ⟨_, rfl, ?_⟩; have n0_ := Aside0.mk (Kd.R_lower ho0 (below_size (by repeat (first | (with_reducible first | exact HB.out | apply below_alloc | apply pw_below_drewN | apply below_drew1 | refine below_set ?_ GE191.out) | exact HB.out)))); have n1_ := Aside0.mk (blk_below (g := gb191) (o := .cells #[.int .u64 a0_0, .slice A0_1 l0_1.length c0_1, .slice A0_2 l0_2.length c0_2] 60 (0, 0)) (by (with_reducible repeat (first | refine blk_drewN ?_ _ | refine blk_drew ?_ | refine blk_alloc ?_ _)); exact BK191.out) hb); have n2_ := Aside0.mk (below_step (by repeat (first | (with_reducible first | exact HB.out | apply below_alloc | apply pw_below_drewN | apply below_drew1 | refine below_set ?_ GE191.out) | exact HB.out)) hb); clear BK191; clear HB; have HO195 := n0_; have BK191 := n1_; have HB := n2_; clear n0_ n1_ n2_; (try clear hb); (try clear hb2); (try clear hk); (try clear hi); (try clear ho0); have hcz14_0 : w13.cell? ⟨gb191, 0, none⟩ = some (.int .u64 a0_0) := (blk_cell BK191.out 0).trans rfl; have hcz14_1 : w13.cell? ⟨gb191, 1, none⟩ = some (.slice A0_1 l0_1.length c0_1) := (blk_cell BK191.out 1).trans rfl; have hcz14_2 : w13.cell? ⟨gb191, 2, none⟩ = some (.slice A0_2 l0_2.length c0_2) := (blk_cell BK191.out 2).trans rfl; have hfz14_0 := blk_frozen BK191.out 0; have hfz14_1 := blk_frozen BK191.out 1; have hfz14_2 := blk_frozen BK191.out 2) | ((with_reducible refine gate_callee (f := 73) rfl ?_); refine goesL_ (some 22) rfl rfl Try.func73 (by kernel_rfl) rfl #[.int .u64 (IntKind.u64.wrap ((l0_1.length : Int))), .int .i64 2] rfl (by (try simp only [List.map_toArray, List.map_cons, List.map_nil]); first | done | rfl | (simp only [List.length_drop, List.length_take]; rfl)) ?_; (with_reducible refine (undercroftref01_Bytes.calls k (IntKind.u64.wrap ((l0_1.length : Int))) 2 t196 _ A5.out).mono ?_); rintro e w15 ⟨v197, rfl, ho0, hb⟩; refine ⟨_, rfl, ?_⟩; have n0_ := Aside0.mk (Kd.R_elder' (by (with_reducible repeat (first | apply Kd.R_alloc | apply Kd.R_drewN | apply Kd.R_drew)); exact HO195.out) (Kd.R_base ho0) hb); have n1_ := Aside0.mk (Kd.R_lower (Kd.R_new' ho0 (Kd.R_lt (by (with_reducible repeat (first | apply Kd.R_alloc | apply Kd.R_drewN | apply Kd.R_drew)); exact HO195.out))) (below_size (by repeat (first | (with_reducible first | exact HB.out | apply below_alloc | apply pw_below_drewN | apply below_drew1 | refine below_set ?_ GE191.out) | exact HB.out)))); have n2_ := Aside0.mk (blk_below (g := gb191) (o := .cells #[.int .u64 a0_0, .slice A0_1 l0_1.length c0_1, .slice A0_2 l0_2.length c0_2] 60 (0, 0)) (by (with_reducible repeat (first | refine blk_drewN ?_ _ | refine blk_drew ?_ | refine blk_alloc ?_ _)); exact BK191.out) hb); have n3_ := Aside0.mk (below_step (by repeat (first | (with_reducible first | exact HB.out | apply below_alloc | apply pw_below_drewN | apply below_drew1 | refine below_set ?_ GE191.out) | exact HB.out)) hb); clear HO195; clear BK191; clear HB; have HO195 := n0_; have HO198 := n1_; have BK191 := n2_; have HB := n3_; clear n0_ n1_ n2_ n3_; (try clear hb); (try clear hb2); (try clear hk); (try clear hi); (try clear ho0); obtain ⟨Ao17, co17, eo17⟩ := Kd.R_slice HO198.out; subst eo17) | ((with_reducible refine gate_builtin (b := .append) (xs := #[.tmp 17, .tmp 22]) rfl ?_); at_builtin; refine Kd.R_append_rows (Kd.int .u8) (w0 := w) w.heap.size rfl (.tmp 17) (.tmp 22) 22 5 (.int .u8 0) 1 rfl Try.underlying22 info5 rfl (by decide) (by omega) v194 t193 t196 _ _ _ (fun k_ => some k_ ≠ (.slice Ao17 t196.length co17 : Value).ownBlock) (fun _ => False) rfl rfl ?aO ?aR (fun _ _ h => h) (fun _ h => h.elim) ?aF ?aB ?aS ?aL ?_; (case aR => repeat (first | exact (Kd.R_reads' HO198.out).2.2 | (with_reducible refine Kd.C_alloc ?_ _) | (with_reducible refine Kd.C_drewN ?_ _) | (with_reducible refine Kd.C_drew ?_))); (case aB => exact (by repeat (first | (with_reducible first | exact HB.out | apply below_alloc | apply pw_below_drewN | apply below_drew1 | refine below_set ?_ GE191.out) | exact HB.out))); (case aF => exact (fun k_ hk => Kd.fresh' (Kd.R_lt (by (with_reducible repeat (first | apply Kd.R_alloc | apply Kd.R_drewN | apply Kd.R_drew)); exact HO198.out)) k_ hk)); (case aO => exact (by (with_reducible repeat (first | apply Kd.R_alloc | apply Kd.R_drewN | apply Kd.R_drew)); exact Kd.R_mono HO195.out (fun _ hk => hk.2))); (case aS => exact (below_size (by repeat (first | (with_reducible first | exact HB.out | apply below_alloc | apply pw_below_drewN | apply below_drew1 | refine below_set ?_ GE191.out) | exact HB.out)))); (case aL => have := LMc6.out; omega); intro v200 w16 ho hb hg hat; rw [← Ny199.out] at ho; have n0_ := Aside0.mk (blk_grown (g := gb191) (o := .cells #[.int .u64 a0_0, .slice A0_1 l0_1.length c0_1, .slice A0_2 l0_2.length c0_2] 60 (0, 0)) (by (with_reducible repeat (first | refine blk_drewN ?_ _ | refine blk_drew ?_ | refine blk_alloc ?_ _)); exact BK191.out) hg (Kd.R_ne HO195.out BK191.out (by decide))); have n1_ := Aside0.mk (Kd.R_after (ok := (fun _ => True)) (by (with_reducible repeat (first | apply Kd.R_alloc | apply Kd.R_drewN | apply Kd.R_drew)); exact HO198.out) hg hat); have n2_ := Aside0.mk (hb); have n3_ := Aside0.mk (ho); clear BK191; clear HO198; clear HB; clear HO195; have BK191 := n0_; have HO198 := n1_; have HB := n2_; have HO201 := n3_; clear n0_ n1_ n2_ n3_; clear ho hb hg hat; have hcz18_0 : w16.cell? ⟨gb191, 0, none⟩ = some (.int .u64 a0_0) := (blk_cell BK191.out 0).trans rfl; have hcz18_1 : w16.cell? ⟨gb191, 1, none⟩ = some (.slice A0_1 l0_1.length c0_1) := (blk_cell BK191.out 1).trans rfl; have hcz18_2 : w16.cell? ⟨gb191, 2, none⟩ = some (.slice A0_2 l0_2.length c0_2) := (blk_cell BK191.out 2).trans rfl; have hfz18_0 := blk_frozen BK191.out 0; have hfz18_1 := blk_frozen BK191.out 1; have hfz18_2 := blk_frozen BK191.out 2) | ((with_reducible refine gate_callee (f := 73) rfl ?_); refine goesL_ (some 29) rfl rfl Try.func73 (by kernel_rfl) rfl #[.int .u64 (IntKind.u64.wrap ((l0_2.length : Int))), .int .i64 2] rfl (by (try simp only [List.map_toArray, List.map_cons, List.map_nil]); first | done | rfl | (simp only [List.length_drop, List.length_take]; rfl)) ?_; (with_reducible refine (undercroftref01_Bytes.calls k (IntKind.u64.wrap ((l0_2.length : Int))) 2 t202 _ A7.out).mono ?_); rintro e w19 ⟨v203, rfl, ho0, hb⟩; refine ⟨_, rfl, ?_⟩; have n0_ := Aside0.mk (Kd.R_elder' (by (with_reducible repeat (first | apply Kd.R_alloc | apply Kd.R_drewN | apply Kd.R_drew)); exact HO198.out) (Kd.R_base ho0) hb); have n1_ := Aside0.mk (Kd.R_elder' (by (with_reducible repeat (first | apply Kd.R_alloc | apply Kd.R_drewN | apply Kd.R_drew)); exact HO201.out) (Kd.R_base ho0) hb); have n2_ := Aside0.mk (Kd.R_lower (Kd.R_new' (Kd.R_new' ho0 (Kd.R_lt (by (with_reducible repeat (first | apply Kd.R_alloc | apply Kd.R_drewN | apply Kd.R_drew)); exact HO198.out))) (Kd.R_lt (by (with_reducible repeat (first | apply Kd.R_alloc | apply Kd.R_drewN | apply Kd.R_drew)); exact HO201.out))) (below_size (by repeat (first | (with_reducible first | exact HB.out | apply below_alloc | apply pw_below_drewN | apply below_drew1 | refine below_set ?_ GE191.out) | exact HB.out)))); have n3_ := Aside0.mk (blk_below (g := gb191) (o := .cells #[.int .u64 a0_0, .slice A0_1 l0_1.length c0_1, .slice A0_2 l0_2.length c0_2] 60 (0, 0)) (by (with_reducible repeat (first | refine blk_drewN ?_ _ | refine blk_drew ?_ | refine blk_alloc ?_ _)); exact BK191.out) hb); have n4_ := Aside0.mk (below_step (by repeat (first | (with_reducible first | exact HB.out | apply below_alloc | apply pw_below_drewN | apply below_drew1 | refine below_set ?_ GE191.out) | exact HB.out)) hb); clear HO198; clear HO201; clear BK191; clear HB; have HO198 := n0_; have HO201 := n1_; have HO204 := n2_; have BK191 := n3_; have HB := n4_; clear n0_ n1_ n2_ n3_ n4_; (try clear hb); (try clear hb2); (try clear hk); (try clear hi); (try clear ho0); obtain ⟨Ao21, co21, eo21⟩ := Kd.R_slice HO204.out; subst eo21) | ((with_reducible refine gate_builtin (b := .append) (xs := #[.tmp 24, .tmp 29]) rfl ?_); at_builtin; refine Kd.R_append_rows (Kd.int .u8) (w0 := w) w.heap.size rfl (.tmp 24) (.tmp 29) 22 5 (.int .u8 0) 1 rfl Try.underlying22 info5 rfl (by decide) (by omega) v200 y199 t202 _ _ _ (fun k_ => some k_ ≠ (.slice Ao17 t196.length co17 : Value).ownBlock ∧ some k_ ≠ (.slice Ao21 t202.length co21 : Value).ownBlock) (fun _ => False) rfl rfl ?aO ?aR (fun _ _ h => h) (fun _ h => h.elim) ?aF ?aB ?aS ?aL ?_; (case aR => repeat (first | exact (Kd.R_reads' HO204.out).2.2 | (with_reducible refine Kd.C_alloc ?_ _) | (with_reducible refine Kd.C_drewN ?_ _) | (with_reducible refine Kd.C_drew ?_))); (case aB => exact (by repeat (first | (with_reducible first | exact HB.out | apply below_alloc | apply pw_below_drewN | apply below_drew1 | refine below_set ?_ GE191.out) | exact HB.out))); (case aF => exact (fun k_ hk => ⟨Kd.fresh' (Kd.R_lt (by (with_reducible repeat (first | apply Kd.R_alloc | apply Kd.R_drewN | apply Kd.R_drew)); exact HO198.out)) k_ hk, Kd.fresh' (Kd.R_lt (by (with_reducible repeat (first | apply Kd.R_alloc | apply Kd.R_drewN | apply Kd.R_drew)); exact HO204.out)) k_ hk⟩)); (case aO => exact (by (with_reducible repeat (first | apply Kd.R_alloc | apply Kd.R_drewN | apply Kd.R_drew)); exact HO201.out)); (case aS => exact (below_size (by repeat (first | (with_reducible first | exact HB.out | apply below_alloc | apply pw_below_drewN | apply below_drew1 | refine below_set ?_ GE191.out) | exact HB.out)))); (case aL => have := LMc8.out; omega); intro v206 w20 ho hb hg hat; rw [← Ny205.out] at ho; have n0_ := Aside0.mk (blk_grown (g := gb191) (o := .cells #[.int .u64 a0_0, .slice A0_1 l0_1.length c0_1, .slice A0_2 l0_2.length c0_2] 60 (0, 0)) (by (with_reducible repeat (first | refine blk_drewN ?_ _ | refine blk_drew ?_ | refine blk_alloc ?_ _)); exact BK191.out) hg (Kd.R_ne HO201.out BK191.out (by decide))); have n1_ := Aside0.mk (Kd.R_after (ok := (fun k_ => some k_ ≠ (.slice Ao21 t202.length co21 : Value).ownBlock)) (by (with_reducible repeat (first | apply Kd.R_alloc | apply Kd.R_drewN | apply Kd.R_drew)); exact Kd.R_mono HO198.out (fun _ hk => ⟨hk.2, hk.1.2⟩)) hg hat); have n2_ := Aside0.mk (Kd.R_after (ok := (fun k_ => some k_ ≠ (.slice Ao17 t196.length co17 : Value).ownBlock)) (by (with_reducible repeat (first | apply Kd.R_alloc | apply Kd.R_drewN | apply Kd.R_drew)); exact Kd.R_mono HO204.out (fun _ hk => ⟨hk.1.2, hk.2⟩)) hg hat); have n3_ := Aside0.mk (hb); have n4_ := Aside0.mk (ho); clear BK191; clear HO198; clear HO204; clear HB; clear HO201; have BK191 := n0_; have HO198 := n1_; have HO204 := n2_; have HB := n3_; have HO207 := n4_; clear n0_ n1_ n2_ n3_ n4_; clear ho hb hg hat))
    go_loopg [4, 5] k (fun kq v4 v5 w' => ∃ (x4_1 : List Int) (x5_1 : Int), v5 = .int .i64 x5_1 ∧ Aside0 (undercroftref03_Encode.l0 kq x4_1 x5_1 a0_0 l0_1 l0_2 = some (r1, r2)) ∧ Aside0 (kq ≤ k) ∧ Aside0 (Kd.R (Kd.int .u8) 5 w' w.heap.size (fun _ => True) v4 x4_1) ∧ Aside0 (w'.heap[gb191]? = some (.cells #[.int .u64 a0_0, (.slice A0_1 l0_1.length c0_1), (.slice A0_2 l0_2.length c0_2)] 60 (0, 0))) ∧ Aside0 (Below w.heap.size w w'))
    case atStart => exact ⟨(y205), (0), (by first | rfl | (simp; done) | (simp [*]; done)), H', ⟨Nat.le_refl _⟩, ⟨by (with_reducible repeat (first | apply Kd.R_alloc | apply Kd.R_drewN | apply Kd.R_drew)); exact Kd.R_mono HO207.out (fun _ hk => trivial)⟩, ⟨by (with_reducible repeat (first | refine blk_drewN ?_ _ | refine blk_drew ?_ | refine blk_alloc ?_ _)); exact BK191.out⟩, ⟨by repeat (first | (with_reducible first | exact HB.out | apply below_alloc | apply pw_below_drewN | apply below_drew1 | refine below_set ?_ GE191.out) | exact HB.out)⟩⟩
    case round =>
      clear H'
      try clear p2
      try clear c3
      try clear c6
      try clear c7
      try clear c8
      try clear hcz10_0
      try clear hcz10_1
      try clear hcz10_2
      try clear hcz12_0
      try clear hcz12_1
      try clear hcz12_2
      try clear hcz14_0
      try clear hcz14_1
      try clear hcz14_2
      try clear hcz18_0
      try clear hcz18_1
      try clear hcz18_2
      try clear hfz10_0
      try clear hfz10_1
      try clear hfz10_2
      try clear hfz12_0
      try clear hfz12_1
      try clear hfz12_2
      try clear hfz14_0
      try clear hfz14_1
      try clear hfz14_2
      try clear hfz18_0
      try clear hfz18_1
      try clear hfz18_2
      obtain ⟨x4_1, x5_1, rfl, HA, HK1, HO_4, BK191, HB⟩ := hrel
      cases gk with
      | zero => exact absurd HA.out (by simp [undercroftref03_Encode.l0])
      | succ k1 =>
        have H := HA.out
        clear HA
        simp only [undercroftref03_Encode.l0] at H
        by_cases c22 : x5_1 < (l0_1.length : Int)
        · rw [if_pos c22] at H
          have c22b0 : decide (x5_1 < (l0_1.length : Int)) = true := decide_eq_true c22
          clear c22
          by_cases c23 : 0 ≤ x5_1
          rotate_left
          · rw [if_neg c23] at H
            exact absurd H (by simp)
          rw [if_pos c23] at H
          have c23b0 : decide (0 ≤ x5_1) = true := decide_eq_true c23
          clear c23
          replace H := Option.bind_eq_some_iff.mp H
          obtain ⟨t210, A240, H⟩ := H
          replace H : (if t210 = true then ((undercroftref01_Bytes.f k1 (IntKind.u64.wrap ((IntKind.u64.wrap ((rd_T66 l0_1 x5_1).f0)) + 2147483648)) 4).bind fun t211 => (if x4_1.length + t211.length < 140737488355328 then (undercroftref03_Encode.l0 k1 (x4_1 ++ t211) (wrap64 (x5_1 + 1)) a0_0 l0_1 l0_2) else (none))) else ((undercroftref01_Bytes.f k1 (IntKind.u64.wrap ((rd_T66 l0_1 x5_1).f0)) 4).bind fun t217 => (if x4_1.length + t217.length < 140737488355328 then (undercroftref03_Encode.l0 k1 (x4_1 ++ t217) (wrap64 (x5_1 + 1)) a0_0 l0_1 l0_2) else (none)))) = some (r1, r2) := H
          have A24 := Aside0.mk A240
          clear A240
          by_cases c25 : t210 = true
          rotate_left
          · replace c25 := Bool.eq_false_iff.mpr c25
            subst c25
            have H1 : ((undercroftref01_Bytes.f k1 (IntKind.u64.wrap ((rd_T66 l0_1 x5_1).f0)) 4).bind fun t217 => (if x4_1.length + t217.length < 140737488355328 then (undercroftref03_Encode.l0 k1 (x4_1 ++ t217) (wrap64 (x5_1 + 1)) a0_0 l0_1 l0_2) else (none))) = some (r1, r2) := by rw [if_neg (show ¬ (false = true) by decide)] at H; exact H
            clear H
            have H := H1
            clear H1
            replace H := Option.bind_eq_some_iff.mp H
            obtain ⟨t217, A320, H⟩ := H
            replace H : (if x4_1.length + t217.length < 140737488355328 then (undercroftref03_Encode.l0 k1 (x4_1 ++ t217) (wrap64 (x5_1 + 1)) a0_0 l0_1 l0_2) else (none)) = some (r1, r2) := H
            have A32 := Aside0.mk A320
            clear A320
            by_cases c33 : x4_1.length + t217.length < 140737488355328
            rotate_left
            · rw [if_neg c33] at H
              exact absurd H (by simp)
            rw [if_pos c33] at H
            have LMc33 := Aside0.mk c33
            clear c33
            obtain ⟨y220, hy220⟩ : ∃ y_ : List Int, y_ = (x4_1 ++ t217) := ⟨_, rfl⟩
            replace H : (undercroftref03_Encode.l0 k1 y220 (wrap64 (x5_1 + 1)) a0_0 l0_1 l0_2) = some (r1, r2) := by first | (rw [hy220]; with_reducible exact H) | (have H2_ := (Option.bind_some _ _).symm.trans H; rw [hy220]; with_reducible exact H2_) | (have H2_ := (Option.bind_some _ _).symm.trans H; with_reducible exact H2_) | with_reducible exact H | (rw [hy220]; exact H) | exact H
            have Ny220 := Aside0.mk hy220
            clear hy220
            have H' := Aside0.mk H
            clear H
            have hcz34_0 : wr.cell? ⟨gb191, 0, none⟩ = some (.int .u64 a0_0) := (blk_cell BK191.out 0).trans rfl
            have hcz34_1 : wr.cell? ⟨gb191, 1, none⟩ = some (.slice A0_1 l0_1.length c0_1) := (blk_cell BK191.out 1).trans rfl
            have hcz34_2 : wr.cell? ⟨gb191, 2, none⟩ = some (.slice A0_2 l0_2.length c0_2) := (blk_cell BK191.out 2).trans rfl
            have hfz34_0 := blk_frozen BK191.out 0
            have hfz34_1 := blk_frozen BK191.out 1
            have hfz34_2 := blk_frozen BK191.out 2
            have p208 : 0 ≤ (x5_1 : Int) := of_decide_eq_true (by first | (with_reducible assumption) | assumption)
            have q208 : x5_1 < (l0_1.length : Int) := of_decide_eq_true (by first | (with_reducible assumption) | assumption)
            obtain ⟨ad208, A208_1, c208_1, e208, hx208_0, hx208_1, hl208_1, hi208_1⟩ := at_T66 HR0_1.out x5_1 p208 q208
            cases e208
            replace hx208_0 := (HB.out.cell (World.block_lt_of_cell? w _ hx208_0)).trans hx208_0
            replace hx208_1 := (HB.out.cell (World.block_lt_of_cell? w _ hx208_1)).trans hx208_1
            have HR208_1 := Aside0.mk hi208_1
            have HC208_1 := Aside0.mk hl208_1
            clear hi208_1 hl208_1
            replace p208 := eq_true p208
            replace q208 := eq_true q208
            have p209 : 0 ≤ (x5_1 : Int) := of_decide_eq_true (by first | (with_reducible assumption) | assumption)
            have q209 : x5_1 < (l0_1.length : Int) := of_decide_eq_true (by first | (with_reducible assumption) | assumption)
            obtain ⟨ad209, A209_1, c209_1, e209, hx209_0, hx209_1, hl209_1, hi209_1⟩ := at_T66 HR0_1.out x5_1 p209 q209
            obtain rfl : ad208 = ad209 := (by injection e209)
            replace hx209_0 := (HB.out.cell (World.block_lt_of_cell? w _ hx209_0)).trans hx209_0
            replace hx209_1 := (HB.out.cell (World.block_lt_of_cell? w _ hx209_1)).trans hx209_1
            have HR209_1 := Aside0.mk hi209_1
            have HC209_1 := Aside0.mk hl209_1
            clear hi209_1 hl209_1
            replace p209 := eq_true p209
            replace q209 := eq_true q209
            have ea_ := Option.some.inj (hx208_1.symm.trans hx209_1)
            injection ea_ with ea_ en_ ec_
            subst ea_
            subst ec_
            clear en_
            go_wp2_with (first | ((with_reducible refine gate_callee (f := 85) rfl ?_); refine goesL_ (some 51) rfl rfl Try.func85 (by kernel_rfl) rfl #[.slice A208_1 ((rd_T66 l0_1 x5_1).f1).length c208_1] rfl (by (try simp only [List.map_toArray, List.map_cons, List.map_nil]); first | done | rfl | (simp only [List.length_drop, List.length_take]; rfl)) ?_; (with_reducible refine (undercroftref03_looks.calls _ _ ((rd_T66 l0_1 x5_1).f1) false _ ?side1 ?side2 A24.out).mono ?_); (case side1 => repeat (first | exact (Kd.C_below HR209_1.out HB.out) | (with_reducible refine Kd.C_alloc ?_ _) | (with_reducible refine Kd.C_drewN ?_ _) | (with_reducible refine Kd.C_drew ?_))); (case side2 => exact HC209_1.out); rintro e w' ⟨rfl, ⟨nd, rfl⟩⟩; refine ⟨_, rfl, ?_⟩) | ((with_reducible refine gate_callee (f := 73) rfl ?_); refine goesL_ (some 56) rfl rfl Try.func73 (by kernel_rfl) rfl #[.int .u64 (IntKind.u64.wrap ((rd_T66 l0_1 x5_1).f0)), .int .i64 4] rfl (by (try simp only [List.map_toArray, List.map_cons, List.map_nil]); first | done | rfl | (simp only [List.length_drop, List.length_take]; rfl)) ?_; (with_reducible refine (undercroftref01_Bytes.calls k1 (IntKind.u64.wrap ((rd_T66 l0_1 x5_1).f0)) 4 t217 _ A32.out).mono ?_); rintro e w35 ⟨v218, rfl, ho0, hb⟩; refine ⟨_, rfl, ?_⟩; have n0_ := Aside0.mk (Kd.R_elder' (by (with_reducible repeat (first | apply Kd.R_alloc | apply Kd.R_drewN | apply Kd.R_drew)); exact HO_4.out) (Kd.R_base ho0) hb); have n1_ := Aside0.mk (Kd.R_lower (Kd.R_new' ho0 (Kd.R_lt (by (with_reducible repeat (first | apply Kd.R_alloc | apply Kd.R_drewN | apply Kd.R_drew)); exact HO_4.out))) (below_size (by repeat (first | (with_reducible first | exact HB.out | apply below_alloc | apply pw_below_drewN | apply below_drew1 | refine below_set ?_ GE191.out) | exact HB.out)))); have n2_ := Aside0.mk (blk_below (g := gb191) (o := .cells #[.int .u64 a0_0, .slice (some ad208) l0_1.length c0_1, .slice A0_2 l0_2.length c0_2] 60 (0, 0)) (by (with_reducible repeat (first | refine blk_drewN ?_ _ | refine blk_drew ?_ | refine blk_alloc ?_ _)); exact BK191.out) hb); have n3_ := Aside0.mk (below_step (by repeat (first | (with_reducible first | exact HB.out | apply below_alloc | apply pw_below_drewN | apply below_drew1 | refine below_set ?_ GE191.out) | exact HB.out)) hb); clear HO_4; clear BK191; clear HB; have HO_4 := n0_; have HO219 := n1_; have BK191 := n2_; have HB := n3_; clear n0_ n1_ n2_ n3_; (try clear hb); (try clear hb2); (try clear hk); (try clear hi); (try clear ho0); obtain ⟨Ao37, co37, eo37⟩ := Kd.R_slice HO219.out; subst eo37) | ((with_reducible refine gate_builtin (b := .append) (xs := #[.tmp 54, .tmp 56]) rfl ?_); at_builtin; refine Kd.R_append_rows (Kd.int .u8) (w0 := w) w.heap.size rfl (.tmp 54) (.tmp 56) 22 5 (.int .u8 0) 1 rfl Try.underlying22 info5 rfl (by decide) (by omega) u4 x4_1 t217 _ _ _ (fun k_ => some k_ ≠ (.slice Ao37 t217.length co37 : Value).ownBlock) (fun _ => False) rfl rfl ?aO ?aR (fun _ _ h => h) (fun _ h => h.elim) ?aF ?aB ?aS ?aL ?_; (case aR => repeat (first | exact (Kd.R_reads' HO219.out).2.2 | (with_reducible refine Kd.C_alloc ?_ _) | (with_reducible refine Kd.C_drewN ?_ _) | (with_reducible refine Kd.C_drew ?_))); (case aB => exact (by repeat (first | (with_reducible first | exact HB.out | apply below_alloc | apply pw_below_drewN | apply below_drew1 | refine below_set ?_ GE191.out) | exact HB.out))); (case aF => exact (fun k_ hk => Kd.fresh' (Kd.R_lt (by (with_reducible repeat (first | apply Kd.R_alloc | apply Kd.R_drewN | apply Kd.R_drew)); exact HO219.out)) k_ hk)); (case aO => exact (by (with_reducible repeat (first | apply Kd.R_alloc | apply Kd.R_drewN | apply Kd.R_drew)); exact Kd.R_mono HO_4.out (fun _ hk => hk.2))); (case aS => exact (below_size (by repeat (first | (with_reducible first | exact HB.out | apply below_alloc | apply pw_below_drewN | apply below_drew1 | refine below_set ?_ GE191.out) | exact HB.out)))); (case aL => have := LMc33.out; omega); intro v221 w36 ho hb hg hat; rw [← Ny220.out] at ho; have n0_ := Aside0.mk (blk_grown (g := gb191) (o := .cells #[.int .u64 a0_0, .slice (some ad208) l0_1.length c0_1, .slice A0_2 l0_2.length c0_2] 60 (0, 0)) (by (with_reducible repeat (first | refine blk_drewN ?_ _ | refine blk_drew ?_ | refine blk_alloc ?_ _)); exact BK191.out) hg (Kd.R_ne HO_4.out BK191.out (by decide))); have n1_ := Aside0.mk (Kd.R_after (ok := (fun _ => True)) (by (with_reducible repeat (first | apply Kd.R_alloc | apply Kd.R_drewN | apply Kd.R_drew)); exact HO219.out) hg hat); have n2_ := Aside0.mk (hb); have n3_ := Aside0.mk (ho); clear BK191; clear HO219; clear HB; clear HO_4; have BK191 := n0_; have HO219 := n1_; have HB := n2_; have HO222 := n3_; clear n0_ n1_ n2_ n3_; clear ho hb hg hat))
            go_roundg k1
            case measure => have := HK1.out; omega
            case rel => exact ⟨(y220), (wrap64 (x5_1 + 1)), (by first | rfl | (simp; done) | (simp [*]; done)), H', ⟨by have := HK1.out; omega⟩, ⟨by (with_reducible repeat (first | apply Kd.R_alloc | apply Kd.R_drewN | apply Kd.R_drew)); exact Kd.R_mono HO222.out (fun _ hk => trivial)⟩, ⟨by (with_reducible repeat (first | refine blk_drewN ?_ _ | refine blk_drew ?_ | refine blk_alloc ?_ _)); exact BK191.out⟩, ⟨by repeat (first | (with_reducible first | exact HB.out | apply below_alloc | apply pw_below_drewN | apply below_drew1 | refine below_set ?_ GE191.out) | exact HB.out)⟩⟩
          subst c25
          have H1 : ((undercroftref01_Bytes.f k1 (IntKind.u64.wrap ((IntKind.u64.wrap ((rd_T66 l0_1 x5_1).f0)) + 2147483648)) 4).bind fun t211 => (if x4_1.length + t211.length < 140737488355328 then (undercroftref03_Encode.l0 k1 (x4_1 ++ t211) (wrap64 (x5_1 + 1)) a0_0 l0_1 l0_2) else (none))) = some (r1, r2) := by rw [if_pos rfl] at H; exact H
          clear H
          have H := H1
          clear H1
          replace H := Option.bind_eq_some_iff.mp H
          obtain ⟨t211, A260, H⟩ := H
          replace H : (if x4_1.length + t211.length < 140737488355328 then (undercroftref03_Encode.l0 k1 (x4_1 ++ t211) (wrap64 (x5_1 + 1)) a0_0 l0_1 l0_2) else (none)) = some (r1, r2) := H
          have A26 := Aside0.mk A260
          clear A260
          by_cases c27 : x4_1.length + t211.length < 140737488355328
          rotate_left
          · rw [if_neg c27] at H
            exact absurd H (by simp)
          rw [if_pos c27] at H
          have LMc27 := Aside0.mk c27
          clear c27
          obtain ⟨y214, hy214⟩ : ∃ y_ : List Int, y_ = (x4_1 ++ t211) := ⟨_, rfl⟩
          replace H : (undercroftref03_Encode.l0 k1 y214 (wrap64 (x5_1 + 1)) a0_0 l0_1 l0_2) = some (r1, r2) := by first | (rw [hy214]; with_reducible exact H) | (have H2_ := (Option.bind_some _ _).symm.trans H; rw [hy214]; with_reducible exact H2_) | (have H2_ := (Option.bind_some _ _).symm.trans H; with_reducible exact H2_) | with_reducible exact H | (rw [hy214]; exact H) | exact H
          have Ny214 := Aside0.mk hy214
          clear hy214
          have H' := Aside0.mk H
          clear H
          have hcz28_0 : wr.cell? ⟨gb191, 0, none⟩ = some (.int .u64 a0_0) := (blk_cell BK191.out 0).trans rfl
          have hcz28_1 : wr.cell? ⟨gb191, 1, none⟩ = some (.slice A0_1 l0_1.length c0_1) := (blk_cell BK191.out 1).trans rfl
          have hcz28_2 : wr.cell? ⟨gb191, 2, none⟩ = some (.slice A0_2 l0_2.length c0_2) := (blk_cell BK191.out 2).trans rfl
          have hfz28_0 := blk_frozen BK191.out 0
          have hfz28_1 := blk_frozen BK191.out 1
          have hfz28_2 := blk_frozen BK191.out 2
          have p208 : 0 ≤ (x5_1 : Int) := of_decide_eq_true (by first | (with_reducible assumption) | assumption)
          have q208 : x5_1 < (l0_1.length : Int) := of_decide_eq_true (by first | (with_reducible assumption) | assumption)
          obtain ⟨ad208, A208_1, c208_1, e208, hx208_0, hx208_1, hl208_1, hi208_1⟩ := at_T66 HR0_1.out x5_1 p208 q208
          cases e208
          replace hx208_0 := (HB.out.cell (World.block_lt_of_cell? w _ hx208_0)).trans hx208_0
          replace hx208_1 := (HB.out.cell (World.block_lt_of_cell? w _ hx208_1)).trans hx208_1
          have HR208_1 := Aside0.mk hi208_1
          have HC208_1 := Aside0.mk hl208_1
          clear hi208_1 hl208_1
          replace p208 := eq_true p208
          replace q208 := eq_true q208
          have p209 : 0 ≤ (x5_1 : Int) := of_decide_eq_true (by first | (with_reducible assumption) | assumption)
          have q209 : x5_1 < (l0_1.length : Int) := of_decide_eq_true (by first | (with_reducible assumption) | assumption)
          obtain ⟨ad209, A209_1, c209_1, e209, hx209_0, hx209_1, hl209_1, hi209_1⟩ := at_T66 HR0_1.out x5_1 p209 q209
          obtain rfl : ad208 = ad209 := (by injection e209)
          replace hx209_0 := (HB.out.cell (World.block_lt_of_cell? w _ hx209_0)).trans hx209_0
          replace hx209_1 := (HB.out.cell (World.block_lt_of_cell? w _ hx209_1)).trans hx209_1
          have HR209_1 := Aside0.mk hi209_1
          have HC209_1 := Aside0.mk hl209_1
          clear hi209_1 hl209_1
          replace p209 := eq_true p209
          replace q209 := eq_true q209
          have ea_ := Option.some.inj (hx208_1.symm.trans hx209_1)
          injection ea_ with ea_ en_ ec_
          subst ea_
          subst ec_
          clear en_
          go_wp2_with (first | ((with_reducible refine gate_callee (f := 85) rfl ?_); refine goesL_ (some 51) rfl rfl Try.func85 (by kernel_rfl) rfl #[.slice A208_1 ((rd_T66 l0_1 x5_1).f1).length c208_1] rfl (by (try simp only [List.map_toArray, List.map_cons, List.map_nil]); first | done | rfl | (simp only [List.length_drop, List.length_take]; rfl)) ?_; (with_reducible refine (undercroftref03_looks.calls _ _ ((rd_T66 l0_1 x5_1).f1) true _ ?side1 ?side2 A24.out).mono ?_); (case side1 => repeat (first | exact (Kd.C_below HR209_1.out HB.out) | (with_reducible refine Kd.C_alloc ?_ _) | (with_reducible refine Kd.C_drewN ?_ _) | (with_reducible refine Kd.C_drew ?_))); (case side2 => exact HC209_1.out); rintro e w' ⟨rfl, ⟨nd, rfl⟩⟩; refine ⟨_, rfl, ?_⟩) | ((with_reducible refine gate_callee (f := 73) rfl ?_); refine goesL_ (some 56) rfl rfl Try.func73 (by kernel_rfl) rfl #[.int .u64 (IntKind.u64.wrap ((IntKind.u64.wrap ((rd_T66 l0_1 x5_1).f0)) + 2147483648)), .int .i64 4] rfl (by (try simp only [List.map_toArray, List.map_cons, List.map_nil]); first | done | rfl | (simp only [List.length_drop, List.length_take]; rfl)) ?_; (with_reducible refine (undercroftref01_Bytes.calls k1 (IntKind.u64.wrap ((IntKind.u64.wrap ((rd_T66 l0_1 x5_1).f0)) + 2147483648)) 4 t211 _ A26.out).mono ?_); rintro e w29 ⟨v212, rfl, ho0, hb⟩; refine ⟨_, rfl, ?_⟩; have n0_ := Aside0.mk (Kd.R_elder' (by (with_reducible repeat (first | apply Kd.R_alloc | apply Kd.R_drewN | apply Kd.R_drew)); exact HO_4.out) (Kd.R_base ho0) hb); have n1_ := Aside0.mk (Kd.R_lower (Kd.R_new' ho0 (Kd.R_lt (by (with_reducible repeat (first | apply Kd.R_alloc | apply Kd.R_drewN | apply Kd.R_drew)); exact HO_4.out))) (below_size (by repeat (first | (with_reducible first | exact HB.out | apply below_alloc | apply pw_below_drewN | apply below_drew1 | refine below_set ?_ GE191.out) | exact HB.out)))); have n2_ := Aside0.mk (blk_below (g := gb191) (o := .cells #[.int .u64 a0_0, .slice (some ad208) l0_1.length c0_1, .slice A0_2 l0_2.length c0_2] 60 (0, 0)) (by (with_reducible repeat (first | refine blk_drewN ?_ _ | refine blk_drew ?_ | refine blk_alloc ?_ _)); exact BK191.out) hb); have n3_ := Aside0.mk (below_step (by repeat (first | (with_reducible first | exact HB.out | apply below_alloc | apply pw_below_drewN | apply below_drew1 | refine below_set ?_ GE191.out) | exact HB.out)) hb); clear HO_4; clear BK191; clear HB; have HO_4 := n0_; have HO213 := n1_; have BK191 := n2_; have HB := n3_; clear n0_ n1_ n2_ n3_; (try clear hb); (try clear hb2); (try clear hk); (try clear hi); (try clear ho0); obtain ⟨Ao31, co31, eo31⟩ := Kd.R_slice HO213.out; subst eo31) | ((with_reducible refine gate_builtin (b := .append) (xs := #[.tmp 54, .tmp 56]) rfl ?_); at_builtin; refine Kd.R_append_rows (Kd.int .u8) (w0 := w) w.heap.size rfl (.tmp 54) (.tmp 56) 22 5 (.int .u8 0) 1 rfl Try.underlying22 info5 rfl (by decide) (by omega) u4 x4_1 t211 _ _ _ (fun k_ => some k_ ≠ (.slice Ao31 t211.length co31 : Value).ownBlock) (fun _ => False) rfl rfl ?aO ?aR (fun _ _ h => h) (fun _ h => h.elim) ?aF ?aB ?aS ?aL ?_; (case aR => repeat (first | exact (Kd.R_reads' HO213.out).2.2 | (with_reducible refine Kd.C_alloc ?_ _) | (with_reducible refine Kd.C_drewN ?_ _) | (with_reducible refine Kd.C_drew ?_))); (case aB => exact (by repeat (first | (with_reducible first | exact HB.out | apply below_alloc | apply pw_below_drewN | apply below_drew1 | refine below_set ?_ GE191.out) | exact HB.out))); (case aF => exact (fun k_ hk => Kd.fresh' (Kd.R_lt (by (with_reducible repeat (first | apply Kd.R_alloc | apply Kd.R_drewN | apply Kd.R_drew)); exact HO213.out)) k_ hk)); (case aO => exact (by (with_reducible repeat (first | apply Kd.R_alloc | apply Kd.R_drewN | apply Kd.R_drew)); exact Kd.R_mono HO_4.out (fun _ hk => hk.2))); (case aS => exact (below_size (by repeat (first | (with_reducible first | exact HB.out | apply below_alloc | apply pw_below_drewN | apply below_drew1 | refine below_set ?_ GE191.out) | exact HB.out)))); (case aL => have := LMc27.out; omega); intro v215 w30 ho hb hg hat; rw [← Ny214.out] at ho; have n0_ := Aside0.mk (blk_grown (g := gb191) (o := .cells #[.int .u64 a0_0, .slice (some ad208) l0_1.length c0_1, .slice A0_2 l0_2.length c0_2] 60 (0, 0)) (by (with_reducible repeat (first | refine blk_drewN ?_ _ | refine blk_drew ?_ | refine blk_alloc ?_ _)); exact BK191.out) hg (Kd.R_ne HO_4.out BK191.out (by decide))); have n1_ := Aside0.mk (Kd.R_after (ok := (fun _ => True)) (by (with_reducible repeat (first | apply Kd.R_alloc | apply Kd.R_drewN | apply Kd.R_drew)); exact HO213.out) hg hat); have n2_ := Aside0.mk (hb); have n3_ := Aside0.mk (ho); clear BK191; clear HO213; clear HB; clear HO_4; have BK191 := n0_; have HO213 := n1_; have HB := n2_; have HO216 := n3_; clear n0_ n1_ n2_ n3_; clear ho hb hg hat))
          go_roundg k1
          case measure => have := HK1.out; omega
          case rel => exact ⟨(y214), (wrap64 (x5_1 + 1)), (by first | rfl | (simp; done) | (simp [*]; done)), H', ⟨by have := HK1.out; omega⟩, ⟨by (with_reducible repeat (first | apply Kd.R_alloc | apply Kd.R_drewN | apply Kd.R_drew)); exact Kd.R_mono HO216.out (fun _ hk => trivial)⟩, ⟨by (with_reducible repeat (first | refine blk_drewN ?_ _ | refine blk_drew ?_ | refine blk_alloc ?_ _)); exact BK191.out⟩, ⟨by repeat (first | (with_reducible first | exact HB.out | apply below_alloc | apply pw_below_drewN | apply below_drew1 | refine below_set ?_ GE191.out) | exact HB.out)⟩⟩
        rw [if_neg c22] at H
        have c22b0 : decide (x5_1 < (l0_1.length : Int)) = false := decide_eq_false c22
        clear c22
        have H' := Aside0.mk H
        clear H
        have hcz38_0 : wr.cell? ⟨gb191, 0, none⟩ = some (.int .u64 a0_0) := (blk_cell BK191.out 0).trans rfl
        have hcz38_1 : wr.cell? ⟨gb191, 1, none⟩ = some (.slice A0_1 l0_1.length c0_1) := (blk_cell BK191.out 1).trans rfl
        have hcz38_2 : wr.cell? ⟨gb191, 2, none⟩ = some (.slice A0_2 l0_2.length c0_2) := (blk_cell BK191.out 2).trans rfl
        have hfz38_0 := blk_frozen BK191.out 0
        have hfz38_1 := blk_frozen BK191.out 1
        have hfz38_2 := blk_frozen BK191.out 2
        go_wp2
        go_loopg [4, 7] k1 (fun kq v4 v7 w' => ∃ (x4_2 : List Int) (x7_2 : Int), v7 = .int .i64 x7_2 ∧ Aside0 (undercroftref03_Encode.l1 kq x4_2 x7_2 a0_0 l0_1 l0_2 = some (r1, r2)) ∧ Aside0 (kq ≤ k1) ∧ Aside0 (Kd.R (Kd.int .u8) 5 w' w.heap.size (fun _ => True) v4 x4_2) ∧ Aside0 (w'.heap[gb191]? = some (.cells #[.int .u64 a0_0, (.slice A0_1 l0_1.length c0_1), (.slice A0_2 l0_2.length c0_2)] 60 (0, 0))) ∧ Aside0 (Below w.heap.size w w'))
        case atStart => exact ⟨(x4_1), (0), (by first | rfl | (simp; done) | (simp [*]; done)), H', ⟨Nat.le_refl _⟩, ⟨by (with_reducible repeat (first | apply Kd.R_alloc | apply Kd.R_drewN | apply Kd.R_drew)); exact HO_4.out⟩, ⟨by (with_reducible repeat (first | refine blk_drewN ?_ _ | refine blk_drew ?_ | refine blk_alloc ?_ _)); exact BK191.out⟩, ⟨by repeat (first | (with_reducible first | exact HB.out | apply below_alloc | apply pw_below_drewN | apply below_drew1 | refine below_set ?_ GE191.out) | exact HB.out)⟩⟩
        case round =>
          clear H'
          try clear c2
          try clear p2
          try clear q2
          try clear hx2
          try clear c3
          try clear c6
          try clear p6
          try clear c7
          try clear c8
          try clear c20
          try clear p20
          try clear q20
          try clear hx20
          try clear c22
          try clear c22b0
          try clear c23
          try clear c23b0
          try clear c25
          try clear c27
          try clear c33
          try clear hcz10_0
          try clear hcz10_1
          try clear hcz10_2
          try clear hcz12_0
          try clear hcz12_1
          try clear hcz12_2
          try clear hcz14_0
          try clear hcz14_1
          try clear hcz14_2
          try clear hcz18_0
          try clear hcz18_1
          try clear hcz18_2
          try clear hcz28_0
          try clear hcz28_1
          try clear hcz28_2
          try clear hcz34_0
          try clear hcz34_1
          try clear hcz34_2
          try clear hcz38_0
          try clear hcz38_1
          try clear hcz38_2
          try clear hfz10_0
          try clear hfz10_1
          try clear hfz10_2
          try clear hfz12_0
          try clear hfz12_1
          try clear hfz12_2
          try clear hfz14_0
          try clear hfz14_1
          try clear hfz14_2
          try clear hfz18_0
          try clear hfz18_1
          try clear hfz18_2
          try clear hfz28_0
          try clear hfz28_1
          try clear hfz28_2
          try clear hfz34_0
          try clear hfz34_1
          try clear hfz34_2
          try clear hfz38_0
          try clear hfz38_1
          try clear hfz38_2
          try clear hx208_0
          try clear hx208_1
          try clear hx209_0
          try clear hx209_1
          try clear p2
          try clear p208
          try clear p209
          try clear q208
          try clear q209
          obtain ⟨x4_2, x7_2, rfl, HA, HK2, HO_4, BK191, HB⟩ := hrel
          cases gk with
          | zero => exact absurd HA.out (by simp [undercroftref03_Encode.l1])
          | succ k2 =>
            have H := HA.out
            clear HA
            simp only [undercroftref03_Encode.l1] at H
            by_cases c39 : x7_2 < (l0_2.length : Int)
            · rw [if_pos c39] at H
              have c39b0 : decide (x7_2 < (l0_2.length : Int)) = true := decide_eq_true c39
              clear c39
              by_cases c40 : 0 ≤ x7_2
              rotate_left
              · rw [if_neg c40] at H
                exact absurd H (by simp)
              rw [if_pos c40] at H
              have c40b0 : decide (0 ≤ x7_2) = true := decide_eq_true c40
              clear c40
              replace H := Option.bind_eq_some_iff.mp H
              obtain ⟨t224, A410, H⟩ := H
              replace H : (if x4_2.length + t224.length < 140737488355328 then (undercroftref03_Encode.l1 k2 (x4_2 ++ t224) (wrap64 (x7_2 + 1)) a0_0 l0_1 l0_2) else (none)) = some (r1, r2) := H
              have A41 := Aside0.mk A410
              clear A410
              by_cases c42 : x4_2.length + t224.length < 140737488355328
              rotate_left
              · rw [if_neg c42] at H
                exact absurd H (by simp)
              rw [if_pos c42] at H
              have LMc42 := Aside0.mk c42
              clear c42
              obtain ⟨y227, hy227⟩ : ∃ y_ : List Int, y_ = (x4_2 ++ t224) := ⟨_, rfl⟩
              replace H : (undercroftref03_Encode.l1 k2 y227 (wrap64 (x7_2 + 1)) a0_0 l0_1 l0_2) = some (r1, r2) := by first | (rw [hy227]; with_reducible exact H) | (have H2_ := (Option.bind_some _ _).symm.trans H; rw [hy227]; with_reducible exact H2_) | (have H2_ := (Option.bind_some _ _).symm.trans H; with_reducible exact H2_) | with_reducible exact H | (rw [hy227]; exact H) | exact H
              have Ny227 := Aside0.mk hy227
              clear hy227
              have H' := Aside0.mk H
              clear H
              have hcz43_0 : wr.cell? ⟨gb191, 0, none⟩ = some (.int .u64 a0_0) := (blk_cell BK191.out 0).trans rfl
              have hcz43_1 : wr.cell? ⟨gb191, 1, none⟩ = some (.slice A0_1 l0_1.length c0_1) := (blk_cell BK191.out 1).trans rfl
              have hcz43_2 : wr.cell? ⟨gb191, 2, none⟩ = some (.slice A0_2 l0_2.length c0_2) := (blk_cell BK191.out 2).trans rfl
              have hfz43_0 := blk_frozen BK191.out 0
              have hfz43_1 := blk_frozen BK191.out 1
              have hfz43_2 := blk_frozen BK191.out 2
              have p223 : 0 ≤ (x7_2 : Int) := of_decide_eq_true (by first | (with_reducible assumption) | assumption)
              have q223 : x7_2 < (l0_2.length : Int) := of_decide_eq_true (by first | (with_reducible assumption) | assumption)
              obtain ⟨ad223, e223, hx223_0⟩ := Kd.at_int HR0_2.out x7_2 p223 q223
              cases e223
              replace hx223_0 := (HB.out.cell (World.block_lt_of_cell? w _ hx223_0)).trans hx223_0
              replace p223 := eq_true p223
              replace q223 := eq_true q223
              go_wp2_with (first | ((with_reducible refine gate_callee (f := 73) rfl ?_); refine goesL_ (some 72) rfl rfl Try.func73 (by kernel_rfl) rfl #[.int .u64 (IntKind.u64.wrap (rd l0_2 x7_2)), .int .i64 4] rfl (by (try simp only [List.map_toArray, List.map_cons, List.map_nil]); first | done | rfl | (simp only [List.length_drop, List.length_take]; rfl)) ?_; (with_reducible refine (undercroftref01_Bytes.calls k2 (IntKind.u64.wrap (rd l0_2 x7_2)) 4 t224 _ A41.out).mono ?_); rintro e w44 ⟨v225, rfl, ho0, hb⟩; refine ⟨_, rfl, ?_⟩; have n0_ := Aside0.mk (Kd.R_elder' (by (with_reducible repeat (first | apply Kd.R_alloc | apply Kd.R_drewN | apply Kd.R_drew)); exact HO_4.out) (Kd.R_base ho0) hb); have n1_ := Aside0.mk (Kd.R_lower (Kd.R_new' ho0 (Kd.R_lt (by (with_reducible repeat (first | apply Kd.R_alloc | apply Kd.R_drewN | apply Kd.R_drew)); exact HO_4.out))) (below_size (by repeat (first | (with_reducible first | exact HB.out | apply below_alloc | apply pw_below_drewN | apply below_drew1 | refine below_set ?_ GE191.out) | exact HB.out)))); have n2_ := Aside0.mk (blk_below (g := gb191) (o := .cells #[.int .u64 a0_0, .slice A0_1 l0_1.length c0_1, .slice (some ad223) l0_2.length c0_2] 60 (0, 0)) (by (with_reducible repeat (first | refine blk_drewN ?_ _ | refine blk_drew ?_ | refine blk_alloc ?_ _)); exact BK191.out) hb); have n3_ := Aside0.mk (below_step (by repeat (first | (with_reducible first | exact HB.out | apply below_alloc | apply pw_below_drewN | apply below_drew1 | refine below_set ?_ GE191.out) | exact HB.out)) hb); clear HO_4; clear BK191; clear HB; have HO_4 := n0_; have HO226 := n1_; have BK191 := n2_; have HB := n3_; clear n0_ n1_ n2_ n3_; (try clear hb); (try clear hb2); (try clear hk); (try clear hi); (try clear ho0); obtain ⟨Ao46, co46, eo46⟩ := Kd.R_slice HO226.out; subst eo46) | ((with_reducible refine gate_builtin (b := .append) (xs := #[.tmp 65, .tmp 72]) rfl ?_); at_builtin; refine Kd.R_append_rows (Kd.int .u8) (w0 := w) w.heap.size rfl (.tmp 65) (.tmp 72) 22 5 (.int .u8 0) 1 rfl Try.underlying22 info5 rfl (by decide) (by omega) u4 x4_2 t224 _ _ _ (fun k_ => some k_ ≠ (.slice Ao46 t224.length co46 : Value).ownBlock) (fun _ => False) rfl rfl ?aO ?aR (fun _ _ h => h) (fun _ h => h.elim) ?aF ?aB ?aS ?aL ?_; (case aR => repeat (first | exact (Kd.R_reads' HO226.out).2.2 | (with_reducible refine Kd.C_alloc ?_ _) | (with_reducible refine Kd.C_drewN ?_ _) | (with_reducible refine Kd.C_drew ?_))); (case aB => exact (by repeat (first | (with_reducible first | exact HB.out | apply below_alloc | apply pw_below_drewN | apply below_drew1 | refine below_set ?_ GE191.out) | exact HB.out))); (case aF => exact (fun k_ hk => Kd.fresh' (Kd.R_lt (by (with_reducible repeat (first | apply Kd.R_alloc | apply Kd.R_drewN | apply Kd.R_drew)); exact HO226.out)) k_ hk)); (case aO => exact (by (with_reducible repeat (first | apply Kd.R_alloc | apply Kd.R_drewN | apply Kd.R_drew)); exact Kd.R_mono HO_4.out (fun _ hk => hk.2))); (case aS => exact (below_size (by repeat (first | (with_reducible first | exact HB.out | apply below_alloc | apply pw_below_drewN | apply below_drew1 | refine below_set ?_ GE191.out) | exact HB.out)))); (case aL => have := LMc42.out; omega); intro v228 w45 ho hb hg hat; rw [← Ny227.out] at ho; have n0_ := Aside0.mk (blk_grown (g := gb191) (o := .cells #[.int .u64 a0_0, .slice A0_1 l0_1.length c0_1, .slice (some ad223) l0_2.length c0_2] 60 (0, 0)) (by (with_reducible repeat (first | refine blk_drewN ?_ _ | refine blk_drew ?_ | refine blk_alloc ?_ _)); exact BK191.out) hg (Kd.R_ne HO_4.out BK191.out (by decide))); have n1_ := Aside0.mk (Kd.R_after (ok := (fun _ => True)) (by (with_reducible repeat (first | apply Kd.R_alloc | apply Kd.R_drewN | apply Kd.R_drew)); exact HO226.out) hg hat); have n2_ := Aside0.mk (hb); have n3_ := Aside0.mk (ho); clear BK191; clear HO226; clear HB; clear HO_4; have BK191 := n0_; have HO226 := n1_; have HB := n2_; have HO229 := n3_; clear n0_ n1_ n2_ n3_; clear ho hb hg hat))
              go_roundg k2
              case measure => have := HK1.out; have := HK2.out; omega
              case rel => exact ⟨(y227), (wrap64 (x7_2 + 1)), (by first | rfl | (simp; done) | (simp [*]; done)), H', ⟨by have := HK1.out; have := HK2.out; omega⟩, ⟨by (with_reducible repeat (first | apply Kd.R_alloc | apply Kd.R_drewN | apply Kd.R_drew)); exact Kd.R_mono HO229.out (fun _ hk => trivial)⟩, ⟨by (with_reducible repeat (first | refine blk_drewN ?_ _ | refine blk_drew ?_ | refine blk_alloc ?_ _)); exact BK191.out⟩, ⟨by repeat (first | (with_reducible first | exact HB.out | apply below_alloc | apply pw_below_drewN | apply below_drew1 | refine below_set ?_ GE191.out) | exact HB.out)⟩⟩
            rw [if_neg c39] at H
            have c39b0 : decide (x7_2 < (l0_2.length : Int)) = false := decide_eq_false c39
            clear c39
            replace H := Option.bind_eq_some_iff.mp H
            obtain ⟨t230, A470, H⟩ := H
            replace H : (undercroftref03_Encode.l2 k2 t230 0 a0_0 l0_1 l0_2) = some (r1, r2) := H
            have A47 := Aside0.mk A470
            clear A470
            have H' := Aside0.mk H
            clear H
            have hcz48_0 : wr.cell? ⟨gb191, 0, none⟩ = some (.int .u64 a0_0) := (blk_cell BK191.out 0).trans rfl
            have hcz48_1 : wr.cell? ⟨gb191, 1, none⟩ = some (.slice A0_1 l0_1.length c0_1) := (blk_cell BK191.out 1).trans rfl
            have hcz48_2 : wr.cell? ⟨gb191, 2, none⟩ = some (.slice A0_2 l0_2.length c0_2) := (blk_cell BK191.out 2).trans rfl
            have hfz48_0 := blk_frozen BK191.out 0
            have hfz48_1 := blk_frozen BK191.out 1
            have hfz48_2 := blk_frozen BK191.out 2
            obtain ⟨Ao49, co49, eo49⟩ := Kd.R_slice HO_4.out
            subst eo49
            go_wp2_with (first | ((with_reducible refine gate_callee (f := 86) rfl ?_); refine goesL_ (some 75) rfl rfl Try.func86 (by kernel_rfl) rfl #[.slice Ao49 x4_2.length co49] rfl (by (try simp only [List.map_toArray, List.map_cons, List.map_nil]); first | done | rfl | (simp only [List.length_drop, List.length_take]; rfl)) ?_; (with_reducible refine (undercroftref03_sealed.calls k2 (fun k_ => some k_ = (.slice Ao49 x4_2.length co49 : Value).ownBlock) (.slice Ao49 x4_2.length co49) x4_2 t230 w _ ?side1 ?side2 A47.out).mono ?_); (case side1 => repeat (first | (with_reducible first | exact HB.out | apply below_alloc | apply pw_below_drewN | apply below_drew1 | refine below_set ?_ GE191.out) | exact HB.out)); (case side2 => exact Kd.R_tight rfl HO_4.out); rintro e w50 ⟨v231, rfl, ho0, hb, hkp⟩; refine ⟨_, rfl, ?_⟩; have n0_ := Aside0.mk (blk_kept (by (with_reducible repeat (first | refine blk_drewN ?_ _ | refine blk_drew ?_ | refine blk_alloc ?_ _)); exact BK191.out) hkp (fun hs_ => (fun e_ => (Kd.R_ne HO_4.out BK191.out (by decide)) e_) hs_)); have n1_ := Aside0.mk (Kd.R_mono (ok' := fun k_ => True) ho0 (fun k_ hk_ => trivial)); have n2_ := Aside0.mk (hb); clear BK191; clear HB; clear HO_4; have BK191 := n0_; have HO232 := n1_; have HB := n2_; clear n0_ n1_ n2_; (try clear hb); (try clear hkp); (try clear ho0)))
            go_loopg [8, 9] k2 (fun kq v8 v9 w' => ∃ (x8_3 : List Int) (x9_3 : Int), v9 = .int .i64 x9_3 ∧ Aside0 (undercroftref03_Encode.l2 kq x8_3 x9_3 a0_0 l0_1 l0_2 = some (r1, r2)) ∧ Aside0 (kq ≤ k2) ∧ Aside0 (Kd.R (Kd.int .u8) 5 w' w.heap.size (fun _ => True) v8 x8_3) ∧ Aside0 (w'.heap[gb191]? = some (.cells #[.int .u64 a0_0, (.slice A0_1 l0_1.length c0_1), (.slice A0_2 l0_2.length c0_2)] 60 (0, 0))) ∧ Aside0 (Below w.heap.size w w'))
            case atStart => exact ⟨(t230), (0), (by first | rfl | (simp; done) | (simp [*]; done)), H', ⟨Nat.le_refl _⟩, ⟨by (with_reducible repeat (first | apply Kd.R_alloc | apply Kd.R_drewN | apply Kd.R_drew)); exact HO232.out⟩, ⟨by (with_reducible repeat (first | refine blk_drewN ?_ _ | refine blk_drew ?_ | refine blk_alloc ?_ _)); exact BK191.out⟩, ⟨by repeat (first | (with_reducible first | exact HB.out | apply below_alloc | apply pw_below_drewN | apply below_drew1 | refine below_set ?_ GE191.out) | exact HB.out)⟩⟩
            case round =>
              clear H'
              try clear c2
              try clear p2
              try clear q2
              try clear hx2
              try clear c3
              try clear c4
              try clear c6
              try clear p6
              try clear c7
              try clear c8
              try clear c20
              try clear p20
              try clear q20
              try clear hx20
              try clear c22
              try clear c22b0
              try clear p22
              try clear q22
              try clear hx22
              try clear c23
              try clear c23b0
              try clear c25
              try clear c27
              try clear c33
              try clear c39
              try clear c39b0
              try clear c40
              try clear c40b0
              try clear c42
              try clear hcz10_0
              try clear hcz10_1
              try clear hcz10_2
              try clear hcz12_0
              try clear hcz12_1
              try clear hcz12_2
              try clear hcz14_0
              try clear hcz14_1
              try clear hcz14_2
              try clear hcz18_0
              try clear hcz18_1
              try clear hcz18_2
              try clear hcz28_0
              try clear hcz28_1
              try clear hcz28_2
              try clear hcz34_0
              try clear hcz34_1
              try clear hcz34_2
              try clear hcz38_0
              try clear hcz38_1
              try clear hcz38_2
              try clear hcz43_0
              try clear hcz43_1
              try clear hcz43_2
              try clear hcz48_0
              try clear hcz48_1
              try clear hcz48_2
              try clear hfz10_0
              try clear hfz10_1
              try clear hfz10_2
              try clear hfz12_0
              try clear hfz12_1
              try clear hfz12_2
              try clear hfz14_0
              try clear hfz14_1
              try clear hfz14_2
              try clear hfz18_0
              try clear hfz18_1
              try clear hfz18_2
              try clear hfz28_0
              try clear hfz28_1
              try clear hfz28_2
              try clear hfz34_0
              try clear hfz34_1
              try clear hfz34_2
              try clear hfz38_0
              try clear hfz38_1
              try clear hfz38_2
              try clear hfz43_0
              try clear hfz43_1
              try clear hfz43_2
              try clear hfz48_0
              try clear hfz48_1
              try clear hfz48_2
              try clear hx208_0
              try clear hx208_1
              try clear hx209_0
              try clear hx209_1
              try clear hx223_0
              try clear p2
              try clear p20
              try clear p208
              try clear p209
              try clear p223
              try clear p6
              try clear q2
              try clear q20
              try clear q208
              try clear q209
              try clear q223
              obtain ⟨x8_3, x9_3, rfl, HA, HK3, HO_8, BK191, HB⟩ := hrel
              cases gk with
              | zero => exact absurd HA.out (by simp [undercroftref03_Encode.l2])
              | succ k3 =>
                have H := HA.out
                clear HA
                simp only [undercroftref03_Encode.l2] at H
                by_cases c51 : x9_3 < (l0_1.length : Int)
                rotate_left
                · rw [if_neg c51] at H
                  have c51b0 : decide (x9_3 < (l0_1.length : Int)) = false := decide_eq_false c51
                  clear c51
                  replace H := Option.bind_eq_some_iff.mp H
                  obtain ⟨t250, A690, H⟩ := H
                  replace H : ((undercroftref01_Sum.f k3 x8_3).bind fun t253 => ((undercroftref01_Bytes.f k3 (IntKind.u64.wrap (t253)) 4).bind fun t254 => (if t250.length + t254.length < 140737488355328 then ((undercroftref03_sealed.f k3 (t250 ++ t254)).bind fun t260 => (if x8_3.length + t260.length < 140737488355328 then (some ((x8_3 ++ t260), 0)) else (none))) else (none)))) = some (r1, r2) := H
                  have A69 := Aside0.mk A690
                  clear A690
                  replace H := Option.bind_eq_some_iff.mp H
                  obtain ⟨t253, A700, H⟩ := H
                  replace H : ((undercroftref01_Bytes.f k3 (IntKind.u64.wrap (t253)) 4).bind fun t254 => (if t250.length + t254.length < 140737488355328 then ((undercroftref03_sealed.f k3 (t250 ++ t254)).bind fun t260 => (if x8_3.length + t260.length < 140737488355328 then (some ((x8_3 ++ t260), 0)) else (none))) else (none))) = some (r1, r2) := H
                  have A70 := Aside0.mk A700
                  clear A700
                  replace H := Option.bind_eq_some_iff.mp H
                  obtain ⟨t254, A710, H⟩ := H
                  replace H : (if t250.length + t254.length < 140737488355328 then ((undercroftref03_sealed.f k3 (t250 ++ t254)).bind fun t260 => (if x8_3.length + t260.length < 140737488355328 then (some ((x8_3 ++ t260), 0)) else (none))) else (none)) = some (r1, r2) := H
                  have A71 := Aside0.mk A710
                  clear A710
                  by_cases c72 : t250.length + t254.length < 140737488355328
                  rotate_left
                  · rw [if_neg c72] at H
                    exact absurd H (by simp)
                  rw [if_pos c72] at H
                  have LMc72 := Aside0.mk c72
                  clear c72
                  obtain ⟨y257, hy257⟩ : ∃ y_ : List Int, y_ = (t250 ++ t254) := ⟨_, rfl⟩
                  replace H : ((undercroftref03_sealed.f k3 y257).bind fun t260 => (if x8_3.length + t260.length < 140737488355328 then (some ((x8_3 ++ t260), 0)) else (none))) = some (r1, r2) := by first | (rw [hy257]; with_reducible exact H) | (have H2_ := (Option.bind_some _ _).symm.trans H; rw [hy257]; with_reducible exact H2_) | (have H2_ := (Option.bind_some _ _).symm.trans H; with_reducible exact H2_) | with_reducible exact H | (rw [hy257]; exact H) | exact H
                  have Ny257 := Aside0.mk hy257
                  clear hy257
                  replace H := Option.bind_eq_some_iff.mp H
                  obtain ⟨t260, A730, H⟩ := H
                  replace H : (if x8_3.length + t260.length < 140737488355328 then (some ((x8_3 ++ t260), 0)) else (none)) = some (r1, r2) := H
                  have A73 := Aside0.mk A730
                  clear A730
                  by_cases c74 : x8_3.length + t260.length < 140737488355328
                  rotate_left
                  · rw [if_neg c74] at H
                    exact absurd H (by simp)
                  rw [if_pos c74] at H
                  have LMc74 := Aside0.mk c74
                  clear c74
                  obtain ⟨y263, hy263⟩ : ∃ y_ : List Int, y_ = (x8_3 ++ t260) := ⟨_, rfl⟩
                  replace H : (some (y263, 0)) = some (r1, r2) := by first | (rw [hy263]; with_reducible exact H) | (have H2_ := (Option.bind_some _ _).symm.trans H; rw [hy263]; with_reducible exact H2_) | (have H2_ := (Option.bind_some _ _).symm.trans H; with_reducible exact H2_) | with_reducible exact H | (rw [hy263]; exact H) | exact H
                  have Ny263 := Aside0.mk hy263
                  clear hy263
                  simp only [Option.some.injEq, Prod.mk.injEq] at H
                  obtain ⟨rfl, rfl⟩ := H
                  have hcz75_0 : wr.cell? ⟨gb191, 0, none⟩ = some (.int .u64 a0_0) := (blk_cell BK191.out 0).trans rfl
                  have hcz75_1 : wr.cell? ⟨gb191, 1, none⟩ = some (.slice A0_1 l0_1.length c0_1) := (blk_cell BK191.out 1).trans rfl
                  have hcz75_2 : wr.cell? ⟨gb191, 2, none⟩ = some (.slice A0_2 l0_2.length c0_2) := (blk_cell BK191.out 2).trans rfl
                  have hfz75_0 := blk_frozen BK191.out 0
                  have hfz75_1 := blk_frozen BK191.out 1
                  have hfz75_2 := blk_frozen BK191.out 2
                  go_wp2_with (first | ((with_reducible refine gate_callee (f := 84) rfl ?_); refine goesL_ (some 112) rfl rfl Try.func84 (by kernel_rfl) rfl #[.int .u8 2, .int .u64 a0_0] rfl (by (try simp only [List.map_toArray, List.map_cons, List.map_nil]); first | done | rfl | (simp only [List.length_drop, List.length_take]; rfl)) ?_; (with_reducible refine (undercroftref03_head.calls k3 2 a0_0 t250 _ A69.out).mono ?_); rintro e w76 ⟨v251, rfl, ho0, hb⟩; refine ⟨_, rfl, ?_⟩; have n0_ := Aside0.mk (Kd.R_elder' (by (with_reducible repeat (first | apply Kd.R_alloc | apply Kd.R_drewN | apply Kd.R_drew)); exact HO_8.out) (Kd.R_base ho0) hb); have n1_ := Aside0.mk (Kd.R_lower (Kd.R_new' ho0 (Kd.R_lt (by (with_reducible repeat (first | apply Kd.R_alloc | apply Kd.R_drewN | apply Kd.R_drew)); exact HO_8.out))) (below_size (by repeat (first | (with_reducible first | exact HB.out | apply below_alloc | apply pw_below_drewN | apply below_drew1 | refine below_set ?_ GE191.out) | exact HB.out)))); have n2_ := Aside0.mk (blk_below (g := gb191) (o := .cells #[.int .u64 a0_0, .slice A0_1 l0_1.length c0_1, .slice A0_2 l0_2.length c0_2] 60 (0, 0)) (by (with_reducible repeat (first | refine blk_drewN ?_ _ | refine blk_drew ?_ | refine blk_alloc ?_ _)); exact BK191.out) hb); have n3_ := Aside0.mk (below_step (by repeat (first | (with_reducible first | exact HB.out | apply below_alloc | apply pw_below_drewN | apply below_drew1 | refine below_set ?_ GE191.out) | exact HB.out)) hb); clear HO_8; clear BK191; clear HB; have HO_8 := n0_; have HO252 := n1_; have BK191 := n2_; have HB := n3_; clear n0_ n1_ n2_ n3_; (try clear hb); (try clear hb2); (try clear hk); (try clear hi); (try clear ho0); obtain ⟨Ao77, co77, eo77⟩ := Kd.R_slice HO_8.out; subst eo77) | ((with_reducible refine gate_callee (f := 74) rfl ?_); refine goesL_ (some 114) rfl rfl Try.func74 (by kernel_rfl) rfl #[.slice Ao77 x8_3.length co77] rfl (by (try simp only [List.map_toArray, List.map_cons, List.map_nil]); first | done | rfl | (simp only [List.length_drop, List.length_take]; rfl)) ?_; (with_reducible refine (undercroftref01_Sum.calls k3 _ _ x8_3 t253 _ ?side1 ?side2 A70.out).mono ?_); (case side1 => repeat (first | exact (Kd.R_reads' HO_8.out).2.2 | (with_reducible refine Kd.C_alloc ?_ _) | (with_reducible refine Kd.C_drewN ?_ _) | (with_reducible refine Kd.C_drew ?_))); (case side2 => exact (Kd.R_reads' HO_8.out).2.1); rintro e w' ⟨rfl, ⟨nd, rfl⟩⟩; refine ⟨_, rfl, ?_⟩) | ((with_reducible refine gate_callee (f := 73) rfl ?_); refine goesL_ (some 116) rfl rfl Try.func73 (by kernel_rfl) rfl #[.int .u64 (IntKind.u64.wrap (t253)), .int .i64 4] rfl (by (try simp only [List.map_toArray, List.map_cons, List.map_nil]); first | done | rfl | (simp only [List.length_drop, List.length_take]; rfl)) ?_; (with_reducible refine (undercroftref01_Bytes.calls k3 (IntKind.u64.wrap (t253)) 4 t254 _ A71.out).mono ?_); rintro e w78 ⟨v255, rfl, ho0, hb⟩; refine ⟨_, rfl, ?_⟩; have n0_ := Aside0.mk (Kd.R_elder' (by (with_reducible repeat (first | apply Kd.R_alloc | apply Kd.R_drewN | apply Kd.R_drew)); exact HO_8.out) (Kd.R_base ho0) hb); have n1_ := Aside0.mk (Kd.R_elder' (by (with_reducible repeat (first | apply Kd.R_alloc | apply Kd.R_drewN | apply Kd.R_drew)); exact HO252.out) (Kd.R_base ho0) hb); have n2_ := Aside0.mk (Kd.R_lower (Kd.R_new' (Kd.R_new' ho0 (Kd.R_lt (by (with_reducible repeat (first | apply Kd.R_alloc | apply Kd.R_drewN | apply Kd.R_drew)); exact HO_8.out))) (Kd.R_lt (by (with_reducible repeat (first | apply Kd.R_alloc | apply Kd.R_drewN | apply Kd.R_drew)); exact HO252.out))) (below_size (by repeat (first | (with_reducible first | exact HB.out | apply below_alloc | apply pw_below_drewN | apply below_drew1 | refine below_set ?_ GE191.out) | exact HB.out)))); have n3_ := Aside0.mk (blk_below (g := gb191) (o := .cells #[.int .u64 a0_0, .slice A0_1 l0_1.length c0_1, .slice A0_2 l0_2.length c0_2] 60 (0, 0)) (by (with_reducible repeat (first | refine blk_drewN ?_ _ | refine blk_drew ?_ | refine blk_alloc ?_ _)); exact BK191.out) hb); have n4_ := Aside0.mk (below_step (by repeat (first | (with_reducible first | exact HB.out | apply below_alloc | apply pw_below_drewN | apply below_drew1 | refine below_set ?_ GE191.out) | exact HB.out)) hb); clear HO_8; clear HO252; clear BK191; clear HB; have HO_8 := n0_; have HO252 := n1_; have HO256 := n2_; have BK191 := n3_; have HB := n4_; clear n0_ n1_ n2_ n3_ n4_; (try clear hb); (try clear hb2); (try clear hk); (try clear hi); (try clear ho0); obtain ⟨Ao80, co80, eo80⟩ := Kd.R_slice HO256.out; subst eo80) | ((with_reducible refine gate_builtin (b := .append) (xs := #[.tmp 112, .tmp 116]) rfl ?_); at_builtin; refine Kd.R_append_rows (Kd.int .u8) (w0 := w) w.heap.size rfl (.tmp 112) (.tmp 116) 22 5 (.int .u8 0) 1 rfl Try.underlying22 info5 rfl (by decide) (by omega) v251 t250 t254 _ _ _ (fun k_ => some k_ ≠ (.slice Ao77 x8_3.length co77 : Value).ownBlock ∧ some k_ ≠ (.slice Ao80 t254.length co80 : Value).ownBlock) (fun _ => False) rfl rfl ?aO ?aR (fun _ _ h => h) (fun _ h => h.elim) ?aF ?aB ?aS ?aL ?_; (case aR => repeat (first | exact (Kd.R_reads' HO256.out).2.2 | (with_reducible refine Kd.C_alloc ?_ _) | (with_reducible refine Kd.C_drewN ?_ _) | (with_reducible refine Kd.C_drew ?_))); (case aB => exact (by repeat (first | (with_reducible first | exact HB.out | apply below_alloc | apply pw_below_drewN | apply below_drew1 | refine below_set ?_ GE191.out) | exact HB.out))); (case aF => exact (fun k_ hk => ⟨Kd.fresh' (Kd.R_lt (by (with_reducible repeat (first | apply Kd.R_alloc | apply Kd.R_drewN | apply Kd.R_drew)); exact HO_8.out)) k_ hk, Kd.fresh' (Kd.R_lt (by (with_reducible repeat (first | apply Kd.R_alloc | apply Kd.R_drewN | apply Kd.R_drew)); exact HO256.out)) k_ hk⟩)); (case aO => exact (by (with_reducible repeat (first | apply Kd.R_alloc | apply Kd.R_drewN | apply Kd.R_drew)); exact Kd.R_mono HO252.out (fun _ hk => ⟨hk.1.2, hk.2⟩))); (case aS => exact (below_size (by repeat (first | (with_reducible first | exact HB.out | apply below_alloc | apply pw_below_drewN | apply below_drew1 | refine below_set ?_ GE191.out) | exact HB.out)))); (case aL => have := LMc72.out; omega); intro v258 w79 ho hb hg hat; rw [← Ny257.out] at ho; have n0_ := Aside0.mk (Kd.R_after (ok := (fun k_ => some k_ ≠ (.slice Ao80 t254.length co80 : Value).ownBlock)) (by (with_reducible repeat (first | apply Kd.R_alloc | apply Kd.R_drewN | apply Kd.R_drew)); exact Kd.R_mono HO_8.out (fun _ hk => ⟨hk.2, hk.1.2⟩)) hg hat); have n1_ := Aside0.mk (blk_grown (g := gb191) (o := .cells #[.int .u64 a0_0, .slice A0_1 l0_1.length c0_1, .slice A0_2 l0_2.length c0_2] 60 (0, 0)) (by (with_reducible repeat (first | refine blk_drewN ?_ _ | refine blk_drew ?_ | refine blk_alloc ?_ _)); exact BK191.out) hg (Kd.R_ne HO252.out BK191.out (by decide))); have n2_ := Aside0.mk (Kd.R_after (ok := (fun k_ => some k_ ≠ (.slice Ao77 x8_3.length co77 : Value).ownBlock)) (by (with_reducible repeat (first | apply Kd.R_alloc | apply Kd.R_drewN | apply Kd.R_drew)); exact Kd.R_mono HO256.out (fun _ hk => ⟨hk.1.2, hk.2⟩)) hg hat); have n3_ := Aside0.mk (hb); have n4_ := Aside0.mk (ho); clear HO_8; clear BK191; clear HO256; clear HB; clear HO252; have HO_8 := n0_; have BK191 := n1_; have HO256 := n2_; have HB := n3_; have HO259 := n4_; clear n0_ n1_ n2_ n3_ n4_; clear ho hb hg hat; obtain ⟨Ao81, co81, eo81⟩ := Kd.R_slice HO259.out; subst eo81) | ((with_reducible refine gate_callee (f := 86) rfl ?_); refine goesL_ (some 120) rfl rfl Try.func86 (by kernel_rfl) rfl #[.slice Ao81 y257.length co81] rfl (by (try simp only [List.map_toArray, List.map_cons, List.map_nil]); first | done | rfl | (simp only [List.length_drop, List.length_take]; rfl)) ?_; (with_reducible refine (undercroftref03_sealed.calls k3 (fun k_ => some k_ = (.slice Ao81 y257.length co81 : Value).ownBlock) (.slice Ao81 y257.length co81) y257 t260 w _ ?side1 ?side2 A73.out).mono ?_); (case side1 => repeat (first | (with_reducible first | exact HB.out | apply below_alloc | apply pw_below_drewN | apply below_drew1 | refine below_set ?_ GE191.out) | exact HB.out)); (case side2 => exact Kd.R_tight rfl HO259.out); rintro e w82 ⟨v261, rfl, ho0, hb, hkp⟩; refine ⟨_, rfl, ?_⟩; have n0_ := Aside0.mk (Kd.R_mono (ok' := fun k_ => some k_ ≠ (.slice Ao80 t254.length co80 : Value).ownBlock ∧ some k_ ≠ (v261 : Value).ownBlock) (Kd.R_keptB (HO_8.out) hkp (fun k_ hk_ hs_ => (hk_.2) hs_)) (fun k_ hk_ => ⟨hk_.1.1, fun e_ => Or.elim (ho0.1 k_ e_.symm) (fun hs_ => hk_.2.1 hs_) (fun hn_ => Nat.not_le.2 hk_.2.2 hn_)⟩)); have n1_ := Aside0.mk (blk_kept (by (with_reducible repeat (first | refine blk_drewN ?_ _ | refine blk_drew ?_ | refine blk_alloc ?_ _)); exact BK191.out) hkp (fun hs_ => (fun e_ => (Kd.R_ne HO259.out BK191.out (by decide)) e_) hs_)); have n2_ := Aside0.mk (Kd.R_mono (ok' := fun k_ => some k_ ≠ (.slice Ao77 x8_3.length co77 : Value).ownBlock ∧ some k_ ≠ (v261 : Value).ownBlock) (Kd.R_keptB (HO256.out) hkp (fun k_ hk_ hs_ => (hk_.2) hs_)) (fun k_ hk_ => ⟨hk_.1.1, fun e_ => Or.elim (ho0.1 k_ e_.symm) (fun hs_ => hk_.2.1 hs_) (fun hn_ => Nat.not_le.2 hk_.2.2 hn_)⟩)); have n3_ := Aside0.mk (Kd.R_mono (ok' := fun k_ => some k_ ≠ (.slice Ao77 x8_3.length co77 : Value).ownBlock ∧ some k_ ≠ (.slice Ao80 t254.length co80 : Value).ownBlock) ho0 (fun k_ hk_ => ⟨Or.elim hk_ (fun hs_ => fun e_ => (((HO_8.out).1 k_ e_.symm).2) hs_) (fun hn_ => (Kd.fresh' (Kd.R_lt (by (with_reducible repeat (first | apply Kd.R_alloc | apply Kd.R_drewN | apply Kd.R_drew)); exact HO_8.out)) k_ hn_)), Or.elim hk_ (fun hs_ => fun e_ => (((HO256.out).1 k_ e_.symm).2) hs_) (fun hn_ => (Kd.fresh' (Kd.R_lt (by (with_reducible repeat (first | apply Kd.R_alloc | apply Kd.R_drewN | apply Kd.R_drew)); exact HO256.out)) k_ hn_))⟩)); have n4_ := Aside0.mk (hb); clear HO_8; clear BK191; clear HO256; clear HB; clear HO259; have HO_8 := n0_; have BK191 := n1_; have HO256 := n2_; have HO262 := n3_; have HB := n4_; clear n0_ n1_ n2_ n3_ n4_; (try clear hb); (try clear hkp); (try clear ho0); obtain ⟨Ao84, co84, eo84⟩ := Kd.R_slice HO262.out; subst eo84) | ((with_reducible refine gate_builtin (b := .append) (xs := #[.tmp 118, .tmp 120]) rfl ?_); at_builtin; refine Kd.R_append_rows (Kd.int .u8) (w0 := w) w.heap.size rfl (.tmp 118) (.tmp 120) 22 5 (.int .u8 0) 1 rfl Try.underlying22 info5 rfl (by decide) (by omega) (.slice Ao77 x8_3.length co77) x8_3 t260 _ _ _ (fun k_ => some k_ ≠ (.slice Ao80 t254.length co80 : Value).ownBlock ∧ some k_ ≠ (.slice Ao84 t260.length co84 : Value).ownBlock) (fun _ => False) rfl rfl ?aO ?aR (fun _ _ h => h) (fun _ h => h.elim) ?aF ?aB ?aS ?aL ?_; (case aR => repeat (first | exact (Kd.R_reads' HO262.out).2.2 | (with_reducible refine Kd.C_alloc ?_ _) | (with_reducible refine Kd.C_drewN ?_ _) | (with_reducible refine Kd.C_drew ?_))); (case aB => exact (by repeat (first | (with_reducible first | exact HB.out | apply below_alloc | apply pw_below_drewN | apply below_drew1 | refine below_set ?_ GE191.out) | exact HB.out))); (case aF => exact (fun k_ hk => ⟨Kd.fresh' (Kd.R_lt (by (with_reducible repeat (first | apply Kd.R_alloc | apply Kd.R_drewN | apply Kd.R_drew)); exact HO256.out)) k_ hk, Kd.fresh' (Kd.R_lt (by (with_reducible repeat (first | apply Kd.R_alloc | apply Kd.R_drewN | apply Kd.R_drew)); exact HO262.out)) k_ hk⟩)); (case aO => exact (by (with_reducible repeat (first | apply Kd.R_alloc | apply Kd.R_drewN | apply Kd.R_drew)); exact HO_8.out)); (case aS => exact (below_size (by repeat (first | (with_reducible first | exact HB.out | apply below_alloc | apply pw_below_drewN | apply below_drew1 | refine below_set ?_ GE191.out) | exact HB.out)))); (case aL => have := LMc74.out; omega); intro v264 w83 ho hb hg hat; rw [← Ny263.out] at ho; have n0_ := Aside0.mk (blk_grown (g := gb191) (o := .cells #[.int .u64 a0_0, .slice A0_1 l0_1.length c0_1, .slice A0_2 l0_2.length c0_2] 60 (0, 0)) (by (with_reducible repeat (first | refine blk_drewN ?_ _ | refine blk_drew ?_ | refine blk_alloc ?_ _)); exact BK191.out) hg (Kd.R_ne HO_8.out BK191.out (by decide))); have n1_ := Aside0.mk (Kd.R_after (ok := (fun k_ => some k_ ≠ (.slice Ao84 t260.length co84 : Value).ownBlock)) (by (with_reducible repeat (first | apply Kd.R_alloc | apply Kd.R_drewN | apply Kd.R_drew)); exact Kd.R_mono HO256.out (fun _ hk => ⟨hk.2, hk.1⟩)) hg hat); have n2_ := Aside0.mk (Kd.R_after (ok := (fun k_ => some k_ ≠ (.slice Ao80 t254.length co80 : Value).ownBlock)) (by (with_reducible repeat (first | apply Kd.R_alloc | apply Kd.R_drewN | apply Kd.R_drew)); exact Kd.R_mono HO262.out (fun _ hk => ⟨hk.2, hk.1⟩)) hg hat); have n3_ := Aside0.mk (hb); have n4_ := Aside0.mk (ho); clear BK191; clear HO256; clear HO262; clear HB; clear HO_8; have BK191 := n0_; have HO256 := n1_; have HO262 := n2_; have HB := n3_; have HO265 := n4_; clear n0_ n1_ n2_ n3_ n4_; clear ho hb hg hat))
                  go_ret2
                  exact ⟨_, by first | rfl | (simp [errW_none, errW_some] <;> rfl) | (simp [*, errW_none, errW_some] <;> rfl), by (with_reducible repeat (first | apply Kd.R_alloc | apply Kd.R_drewN | apply Kd.R_drew)); exact Kd.R_mono HO265.out (fun _ hk => trivial), by repeat (first | (with_reducible first | exact HB.out | apply below_alloc | apply pw_below_drewN | apply below_drew1 | refine below_set ?_ GE191.out) | exact HB.out)⟩
                rw [if_pos c51] at H
                have c51b0 : decide (x9_3 < (l0_1.length : Int)) = true := decide_eq_true c51
                clear c51
                by_cases c52 : 0 ≤ x9_3
                rotate_left
                · rw [if_neg c52] at H
                  exact absurd H (by simp)
                rw [if_pos c52] at H
                have c52b0 : decide (0 ≤ x9_3) = true := decide_eq_true c52
                clear c52
                replace H := Option.bind_eq_some_iff.mp H
                obtain ⟨t234, A530, H⟩ := H
                replace H : (if t234 = true then ((some (([0, 0, 0, 0] : List Int) : List Int)).bind fun y235 => (if x8_3.length + y235.length < 140737488355328 then ((some (x8_3 ++ y235 : List Int)).bind fun y238 => (if 4 ≤ (((rd_T66 l0_1 x9_3).f1).length : Int) then (if y238.length + (((rd_T66 l0_1 x9_3).f1).drop 4).length < 140737488355328 then (undercroftref03_Encode.l2 k3 (y238 ++ (((rd_T66 l0_1 x9_3).f1).drop 4)) (wrap64 (x9_3 + 1)) a0_0 l0_1 l0_2) else (none)) else (none))) else (none))) else (if x8_3.length + ((rd_T66 l0_1 x9_3).f1).length < 140737488355328 then (undercroftref03_Encode.l2 k3 (x8_3 ++ ((rd_T66 l0_1 x9_3).f1)) (wrap64 (x9_3 + 1)) a0_0 l0_1 l0_2) else (none))) = some (r1, r2) := H
                have A53 := Aside0.mk A530
                clear A530
                by_cases c54 : t234 = true
                rotate_left
                · replace c54 := Bool.eq_false_iff.mpr c54
                  subst c54
                  have H1 : (if x8_3.length + ((rd_T66 l0_1 x9_3).f1).length < 140737488355328 then (undercroftref03_Encode.l2 k3 (x8_3 ++ ((rd_T66 l0_1 x9_3).f1)) (wrap64 (x9_3 + 1)) a0_0 l0_1 l0_2) else (none)) = some (r1, r2) := by rw [if_neg (show ¬ (false = true) by decide)] at H; exact H
                  clear H
                  have H := H1
                  clear H1
                  by_cases c66 : x8_3.length + ((rd_T66 l0_1 x9_3).f1).length < 140737488355328
                  rotate_left
                  · rw [if_neg c66] at H
                    exact absurd H (by simp)
                  rw [if_pos c66] at H
                  have LMc66 := Aside0.mk c66
                  clear c66
                  obtain ⟨y247, hy247⟩ : ∃ y_ : List Int, y_ = (x8_3 ++ ((rd_T66 l0_1 x9_3).f1)) := ⟨_, rfl⟩
                  replace H : (undercroftref03_Encode.l2 k3 y247 (wrap64 (x9_3 + 1)) a0_0 l0_1 l0_2) = some (r1, r2) := by first | (rw [hy247]; with_reducible exact H) | (have H2_ := (Option.bind_some _ _).symm.trans H; rw [hy247]; with_reducible exact H2_) | (have H2_ := (Option.bind_some _ _).symm.trans H; with_reducible exact H2_) | with_reducible exact H | (rw [hy247]; exact H) | exact H
                  have Ny247 := Aside0.mk hy247
                  clear hy247
                  have H' := Aside0.mk H
                  clear H
                  have hcz67_0 : wr.cell? ⟨gb191, 0, none⟩ = some (.int .u64 a0_0) := (blk_cell BK191.out 0).trans rfl
                  have hcz67_1 : wr.cell? ⟨gb191, 1, none⟩ = some (.slice A0_1 l0_1.length c0_1) := (blk_cell BK191.out 1).trans rfl
                  have hcz67_2 : wr.cell? ⟨gb191, 2, none⟩ = some (.slice A0_2 l0_2.length c0_2) := (blk_cell BK191.out 2).trans rfl
                  have hfz67_0 := blk_frozen BK191.out 0
                  have hfz67_1 := blk_frozen BK191.out 1
                  have hfz67_2 := blk_frozen BK191.out 2
                  have p233 : 0 ≤ (x9_3 : Int) := of_decide_eq_true (by first | (with_reducible assumption) | assumption)
                  have q233 : x9_3 < (l0_1.length : Int) := of_decide_eq_true (by first | (with_reducible assumption) | assumption)
                  obtain ⟨ad233, A233_1, c233_1, e233, hx233_0, hx233_1, hl233_1, hi233_1⟩ := at_T66 HR0_1.out x9_3 p233 q233
                  cases e233
                  replace hx233_0 := (HB.out.cell (World.block_lt_of_cell? w _ hx233_0)).trans hx233_0
                  replace hx233_1 := (HB.out.cell (World.block_lt_of_cell? w _ hx233_1)).trans hx233_1
                  have HR233_1 := Aside0.mk hi233_1
                  have HC233_1 := Aside0.mk hl233_1
                  clear hi233_1 hl233_1
                  replace p233 := eq_true p233
                  replace q233 := eq_true q233
                  go_wp2_with (first | ((with_reducible refine gate_callee (f := 85) rfl ?_); refine goesL_ (some 89) rfl rfl Try.func85 (by kernel_rfl) rfl #[.slice A233_1 ((rd_T66 l0_1 x9_3).f1).length c233_1] rfl (by (try simp only [List.map_toArray, List.map_cons, List.map_nil]); first | done | rfl | (simp only [List.length_drop, List.length_take]; rfl)) ?_; (with_reducible refine (undercroftref03_looks.calls _ _ ((rd_T66 l0_1 x9_3).f1) false _ ?side1 ?side2 A53.out).mono ?_); (case side1 => repeat (first | exact (Kd.C_below HR233_1.out HB.out) | (with_reducible refine Kd.C_alloc ?_ _) | (with_reducible refine Kd.C_drewN ?_ _) | (with_reducible refine Kd.C_drew ?_))); (case side2 => exact HC233_1.out); rintro e w' ⟨rfl, ⟨nd, rfl⟩⟩; refine ⟨_, rfl, ?_⟩; have p246 : 0 ≤ (x9_3 : Int) := of_decide_eq_true (by first | (with_reducible assumption) | assumption); have q246 : x9_3 < (l0_1.length : Int) := of_decide_eq_true (by first | (with_reducible assumption) | assumption); obtain ⟨ad246, A246_1, c246_1, e246, hx246_0, hx246_1, hl246_1, hi246_1⟩ := at_T66 HR0_1.out x9_3 p246 q246; obtain rfl : ad233 = ad246 := (by injection e246); replace hx246_0 := (HB.out.cell (World.block_lt_of_cell? w _ hx246_0)).trans hx246_0; replace hx246_1 := (HB.out.cell (World.block_lt_of_cell? w _ hx246_1)).trans hx246_1; have HR246_1 := Aside0.mk hi246_1; have HC246_1 := Aside0.mk hl246_1; clear hi246_1 hl246_1; replace p246 := eq_true p246; replace q246 := eq_true q246; have ea_ := Option.some.inj (hx233_1.symm.trans hx246_1); injection ea_ with ea_ en_ ec_; subst ea_; subst ec_; clear en_) | ((with_reducible refine gate_builtin (b := .append) (xs := #[.tmp 102, .tmp 108]) rfl ?_); at_builtin; refine Kd.R_append_rows (Kd.int .u8) (w0 := w) w.heap.size rfl (.tmp 102) (.tmp 108) 22 5 (.int .u8 0) 1 rfl Try.underlying22 info5 rfl (by decide) (by omega) u8 x8_3 ((rd_T66 l0_1 x9_3).f1) _ _ _ (fun _ => True) (fun _ => False) rfl rfl ?aO ?aR (fun _ _ h => h) (fun _ h => h.elim) ?aF ?aB ?aS ?aL ?_; (case aR => repeat (first | exact (Kd.C_below HR246_1.out (by repeat (first | (with_reducible first | exact HB.out | apply below_alloc | apply pw_below_drewN | apply below_drew1 | refine below_set ?_ GE191.out) | exact HB.out))) | (with_reducible refine Kd.C_alloc ?_ _) | (with_reducible refine Kd.C_drewN ?_ _) | (with_reducible refine Kd.C_drew ?_))); (case aB => exact (by repeat (first | (with_reducible first | exact HB.out | apply below_alloc | apply pw_below_drewN | apply below_drew1 | refine below_set ?_ GE191.out) | exact HB.out))); (case aF => exact (fun _ _ => trivial)); (case aO => exact (by (with_reducible repeat (first | apply Kd.R_alloc | apply Kd.R_drewN | apply Kd.R_drew)); exact HO_8.out)); (case aS => exact (below_size (by repeat (first | (with_reducible first | exact HB.out | apply below_alloc | apply pw_below_drewN | apply below_drew1 | refine below_set ?_ GE191.out) | exact HB.out)))); (case aL => have := LMc66.out; omega); intro v248 w68 ho hb hg hat; rw [← Ny247.out] at ho; have n0_ := Aside0.mk (blk_grown (g := gb191) (o := .cells #[.int .u64 a0_0, .slice (some ad233) l0_1.length c0_1, .slice A0_2 l0_2.length c0_2] 60 (0, 0)) (by (with_reducible repeat (first | refine blk_drewN ?_ _ | refine blk_drew ?_ | refine blk_alloc ?_ _)); exact BK191.out) hg (Kd.R_ne HO_8.out BK191.out (by decide))); have n1_ := Aside0.mk (hb); have n2_ := Aside0.mk (ho); clear BK191; clear HB; clear HO_8; have BK191 := n0_; have HB := n1_; have HO249 := n2_; clear n0_ n1_ n2_; clear ho hb hg hat))
                  go_roundg k3
                  case measure => have := HK1.out; have := HK2.out; have := HK3.out; omega
                  case rel => exact ⟨(y247), (wrap64 (x9_3 + 1)), (by first | rfl | (simp; done) | (simp [*]; done)), H', ⟨by have := HK1.out; have := HK2.out; have := HK3.out; omega⟩, ⟨by (with_reducible repeat (first | apply Kd.R_alloc | apply Kd.R_drewN | apply Kd.R_drew)); exact HO249.out⟩, ⟨by (with_reducible repeat (first | refine blk_drewN ?_ _ | refine blk_drew ?_ | refine blk_alloc ?_ _)); exact BK191.out⟩, ⟨by repeat (first | (with_reducible first | exact HB.out | apply below_alloc | apply pw_below_drewN | apply below_drew1 | refine below_set ?_ GE191.out) | exact HB.out)⟩⟩
                subst c54
                have H1 : ((some (([0, 0, 0, 0] : List Int) : List Int)).bind fun y235 => (if x8_3.length + y235.length < 140737488355328 then ((some (x8_3 ++ y235 : List Int)).bind fun y238 => (if 4 ≤ (((rd_T66 l0_1 x9_3).f1).length : Int) then (if y238.length + (((rd_T66 l0_1 x9_3).f1).drop 4).length < 140737488355328 then (undercroftref03_Encode.l2 k3 (y238 ++ (((rd_T66 l0_1 x9_3).f1).drop 4)) (wrap64 (x9_3 + 1)) a0_0 l0_1 l0_2) else (none)) else (none))) else (none))) = some (r1, r2) := by rw [if_pos rfl] at H; exact H
                clear H
                have H := H1
                clear H1
                obtain ⟨y235, hy235⟩ : ∃ y_ : List Int, y_ = (([0, 0, 0, 0] : List Int)) := ⟨_, rfl⟩
                replace H : (if x8_3.length + y235.length < 140737488355328 then ((some (x8_3 ++ y235 : List Int)).bind fun y238 => (if 4 ≤ (((rd_T66 l0_1 x9_3).f1).length : Int) then (if y238.length + (((rd_T66 l0_1 x9_3).f1).drop 4).length < 140737488355328 then (undercroftref03_Encode.l2 k3 (y238 ++ (((rd_T66 l0_1 x9_3).f1).drop 4)) (wrap64 (x9_3 + 1)) a0_0 l0_1 l0_2) else (none)) else (none))) else (none)) = some (r1, r2) := by first | (rw [hy235]; with_reducible exact H) | (have H2_ := (Option.bind_some _ _).symm.trans H; rw [hy235]; with_reducible exact H2_) | (have H2_ := (Option.bind_some _ _).symm.trans H; with_reducible exact H2_) | with_reducible exact H | (rw [hy235]; exact H) | exact H
                have Ny235 := Aside0.mk hy235
                clear hy235
                by_cases c55 : x8_3.length + y235.length < 140737488355328
                rotate_left
                · rw [if_neg c55] at H
                  exact absurd H (by simp)
                rw [if_pos c55] at H
                have LMc55 := Aside0.mk c55
                clear c55
                obtain ⟨y238, hy238⟩ : ∃ y_ : List Int, y_ = (x8_3 ++ y235) := ⟨_, rfl⟩
                replace H : (if 4 ≤ (((rd_T66 l0_1 x9_3).f1).length : Int) then (if y238.length + (((rd_T66 l0_1 x9_3).f1).drop 4).length < 140737488355328 then (undercroftref03_Encode.l2 k3 (y238 ++ (((rd_T66 l0_1 x9_3).f1).drop 4)) (wrap64 (x9_3 + 1)) a0_0 l0_1 l0_2) else (none)) else (none)) = some (r1, r2) := by first | (rw [hy238]; with_reducible exact H) | (have H2_ := (Option.bind_some _ _).symm.trans H; rw [hy238]; with_reducible exact H2_) | (have H2_ := (Option.bind_some _ _).symm.trans H; with_reducible exact H2_) | with_reducible exact H | (rw [hy238]; exact H) | exact H
                have Ny238 := Aside0.mk hy238
                clear hy238
                by_cases c56 : 4 ≤ (((rd_T66 l0_1 x9_3).f1).length : Int)
                rotate_left
                · rw [if_neg c56] at H
                  exact absurd H (by simp)
                rw [if_pos c56] at H
                have c56b0 := eq_true c56
                have c56b1 : decide (4 ≤ (((rd_T66 l0_1 x9_3).f1).length : Int)) = true := decide_eq_true c56
                clear c56
                by_cases c57 : y238.length + (((rd_T66 l0_1 x9_3).f1).drop 4).length < 140737488355328
                rotate_left
                · rw [if_neg c57] at H
                  exact absurd H (by simp)
                rw [if_pos c57] at H
                have LMc57 := Aside0.mk c57
                clear c57
                obtain ⟨y243, hy243⟩ : ∃ y_ : List Int, y_ = (y238 ++ (((rd_T66 l0_1 x9_3).f1).drop 4)) := ⟨_, rfl⟩
                replace H : (undercroftref03_Encode.l2 k3 y243 (wrap64 (x9_3 + 1)) a0_0 l0_1 l0_2) = some (r1, r2) := by first | (rw [hy243]; with_reducible exact H) | (have H2_ := (Option.bind_some _ _).symm.trans H; rw [hy243]; with_reducible exact H2_) | (have H2_ := (Option.bind_some _ _).symm.trans H; with_reducible exact H2_) | with_reducible exact H | (rw [hy243]; exact H) | exact H
                have Ny243 := Aside0.mk hy243
                clear hy243
                have H' := Aside0.mk H
                clear H
                have hcz58_0 : wr.cell? ⟨gb191, 0, none⟩ = some (.int .u64 a0_0) := (blk_cell BK191.out 0).trans rfl
                have hcz58_1 : wr.cell? ⟨gb191, 1, none⟩ = some (.slice A0_1 l0_1.length c0_1) := (blk_cell BK191.out 1).trans rfl
                have hcz58_2 : wr.cell? ⟨gb191, 2, none⟩ = some (.slice A0_2 l0_2.length c0_2) := (blk_cell BK191.out 2).trans rfl
                have hfz58_0 := blk_frozen BK191.out 0
                have hfz58_1 := blk_frozen BK191.out 1
                have hfz58_2 := blk_frozen BK191.out 2
                have p233 : 0 ≤ (x9_3 : Int) := of_decide_eq_true (by first | (with_reducible assumption) | assumption)
                have q233 : x9_3 < (l0_1.length : Int) := of_decide_eq_true (by first | (with_reducible assumption) | assumption)
                obtain ⟨ad233, A233_1, c233_1, e233, hx233_0, hx233_1, hl233_1, hi233_1⟩ := at_T66 HR0_1.out x9_3 p233 q233
                cases e233
                replace hx233_0 := (HB.out.cell (World.block_lt_of_cell? w _ hx233_0)).trans hx233_0
                replace hx233_1 := (HB.out.cell (World.block_lt_of_cell? w _ hx233_1)).trans hx233_1
                have HR233_1 := Aside0.mk hi233_1
                have HC233_1 := Aside0.mk hl233_1
                clear hi233_1 hl233_1
                replace p233 := eq_true p233
                replace q233 := eq_true q233
                go_wp2_with (first | ((with_reducible refine gate_callee (f := 85) rfl ?_); refine goesL_ (some 89) rfl rfl Try.func85 (by kernel_rfl) rfl #[.slice A233_1 ((rd_T66 l0_1 x9_3).f1).length c233_1] rfl (by (try simp only [List.map_toArray, List.map_cons, List.map_nil]); first | done | rfl | (simp only [List.length_drop, List.length_take]; rfl)) ?_; (with_reducible refine (undercroftref03_looks.calls _ _ ((rd_T66 l0_1 x9_3).f1) true _ ?side1 ?side2 A53.out).mono ?_); (case side1 => repeat (first | exact (Kd.C_below HR233_1.out HB.out) | (with_reducible refine Kd.C_alloc ?_ _) | (with_reducible refine Kd.C_drewN ?_ _) | (with_reducible refine Kd.C_drew ?_))); (case side2 => exact HC233_1.out); rintro e w' ⟨rfl, ⟨nd, rfl⟩⟩; refine ⟨_, rfl, ?_⟩) | ((with_reducible refine gate_dst (N := 91) rfl ?_); refine Kd.R_lit (Kd.int .u8) _ 5 ?hg (N := 91) ?hd (xs := ([0, 0, 0, 0] : List Int)) (inner := [.int .u8 0, .int .u8 0, .int .u8 0, .int .u8 0]) (ok := fun _ => True) (okp := fun _ => True) ?hr ?hp (fun _ hk => hk) trivial (Below.refl _ _) (Nat.le_refl _) (by simp) ?_; (case hd => rfl); (case hg => rfl); (case hr => go_simp; first | done | rfl); (case hp => exact (Reps.one (show Kd.M (Kd.int .u8) _ _ _ 0 [.int .u8 0] from rfl) (Reps.one (show Kd.M (Kd.int .u8) _ _ _ 0 [.int .u8 0] from rfl) (Reps.one (show Kd.M (Kd.int .u8) _ _ _ 0 [.int .u8 0] from rfl) (Reps.one (show Kd.M (Kd.int .u8) _ _ _ 0 [.int .u8 0] from rfl) (Reps.none _ _)))))); intro v236 w59 ho60 hb hg_ hnew_; clear hg_ hnew_; (first | rw [← Ny235.out] at ho60 | (simp only [Int.reduceToNat] at ho60; rw [← Ny235.out] at ho60)); have n0_ := Aside0.mk (Kd.R_elder' (by (with_reducible repeat (first | apply Kd.R_alloc | apply Kd.R_drewN | apply Kd.R_drew)); exact HO_8.out) (Kd.R_base ho60) hb); have n1_ := Aside0.mk (Kd.R_lower (Kd.R_new' ho60 (Kd.R_lt (by (with_reducible repeat (first | apply Kd.R_alloc | apply Kd.R_drewN | apply Kd.R_drew)); exact HO_8.out))) (below_size (by repeat (first | (with_reducible first | exact HB.out | apply below_alloc | apply pw_below_drewN | apply below_drew1 | refine below_set ?_ GE191.out) | exact HB.out)))); have n2_ := Aside0.mk (blk_below (g := gb191) (o := .cells #[.int .u64 a0_0, .slice (some ad233) l0_1.length c0_1, .slice A0_2 l0_2.length c0_2] 60 (0, 0)) (by (with_reducible repeat (first | refine blk_drewN ?_ _ | refine blk_drew ?_ | refine blk_alloc ?_ _)); exact BK191.out) hb); have n3_ := Aside0.mk (below_step (by repeat (first | (with_reducible first | exact HB.out | apply below_alloc | apply pw_below_drewN | apply below_drew1 | refine below_set ?_ GE191.out) | exact HB.out)) hb); clear HO_8; clear BK191; clear HB; have HO_8 := n0_; have HO237 := n1_; have BK191 := n2_; have HB := n3_; clear n0_ n1_ n2_ n3_; clear hb ho60; obtain ⟨Ao62, co62, eo62⟩ := Kd.R_slice HO237.out; subst eo62) | ((with_reducible refine gate_builtin (b := .append) (xs := #[.tmp 90, .tmp 91]) rfl ?_); at_builtin; refine Kd.R_append_rows (Kd.int .u8) (w0 := w) w.heap.size rfl (.tmp 90) (.tmp 91) 22 5 (.int .u8 0) 1 rfl Try.underlying22 info5 rfl (by decide) (by omega) u8 x8_3 y235 _ _ _ (fun k_ => some k_ ≠ (.slice Ao62 y235.length co62 : Value).ownBlock) (fun _ => False) rfl rfl ?aO ?aR (fun _ _ h => h) (fun _ h => h.elim) ?aF ?aB ?aS ?aL ?_; (case aR => repeat (first | exact (Kd.R_reads' HO237.out).2.2 | (with_reducible refine Kd.C_alloc ?_ _) | (with_reducible refine Kd.C_drewN ?_ _) | (with_reducible refine Kd.C_drew ?_))); (case aB => exact (by repeat (first | (with_reducible first | exact HB.out | apply below_alloc | apply pw_below_drewN | apply below_drew1 | refine below_set ?_ GE191.out) | exact HB.out))); (case aF => exact (fun k_ hk => Kd.fresh' (Kd.R_lt (by (with_reducible repeat (first | apply Kd.R_alloc | apply Kd.R_drewN | apply Kd.R_drew)); exact HO237.out)) k_ hk)); (case aO => exact (by (with_reducible repeat (first | apply Kd.R_alloc | apply Kd.R_drewN | apply Kd.R_drew)); exact Kd.R_mono HO_8.out (fun _ hk => hk.2))); (case aS => exact (below_size (by repeat (first | (with_reducible first | exact HB.out | apply below_alloc | apply pw_below_drewN | apply below_drew1 | refine below_set ?_ GE191.out) | exact HB.out)))); (case aL => have := LMc55.out; omega); intro v239 w61 ho hb hg hat; rw [← Ny238.out] at ho; have n0_ := Aside0.mk (blk_grown (g := gb191) (o := .cells #[.int .u64 a0_0, .slice (some ad233) l0_1.length c0_1, .slice A0_2 l0_2.length c0_2] 60 (0, 0)) (by (with_reducible repeat (first | refine blk_drewN ?_ _ | refine blk_drew ?_ | refine blk_alloc ?_ _)); exact BK191.out) hg (Kd.R_ne HO_8.out BK191.out (by decide))); have n1_ := Aside0.mk (Kd.R_after (ok := (fun _ => True)) (by (with_reducible repeat (first | apply Kd.R_alloc | apply Kd.R_drewN | apply Kd.R_drew)); exact HO237.out) hg hat); have n2_ := Aside0.mk (hb); have n3_ := Aside0.mk (ho); clear BK191; clear HO237; clear HB; clear HO_8; have BK191 := n0_; have HO237 := n1_; have HB := n2_; have HO240 := n3_; clear n0_ n1_ n2_ n3_; clear ho hb hg hat; have hcz63_0 : w61.cell? ⟨gb191, 0, none⟩ = some (.int .u64 a0_0) := (blk_cell BK191.out 0).trans rfl; have hcz63_1 : w61.cell? ⟨gb191, 1, none⟩ = some (.slice (some ad233) l0_1.length c0_1) := (blk_cell BK191.out 1).trans rfl; have hcz63_2 : w61.cell? ⟨gb191, 2, none⟩ = some (.slice A0_2 l0_2.length c0_2) := (blk_cell BK191.out 2).trans rfl; have hfz63_0 := blk_frozen BK191.out 0; have hfz63_1 := blk_frozen BK191.out 1; have hfz63_2 := blk_frozen BK191.out 2; have p241 : 0 ≤ (x9_3 : Int) := of_decide_eq_true (by first | (with_reducible assumption) | assumption); have q241 : x9_3 < (l0_1.length : Int) := of_decide_eq_true (by first | (with_reducible assumption) | assumption); obtain ⟨ad241, A241_1, c241_1, e241, hx241_0, hx241_1, hl241_1, hi241_1⟩ := at_T66 HR0_1.out x9_3 p241 q241; obtain rfl : ad233 = ad241 := (by injection e241); replace hx241_0 := (HB.out.cell (World.block_lt_of_cell? w _ hx241_0)).trans hx241_0; replace hx241_1 := (HB.out.cell (World.block_lt_of_cell? w _ hx241_1)).trans hx241_1; have HR241_1 := Aside0.mk hi241_1; have HC241_1 := Aside0.mk hl241_1; clear hi241_1 hl241_1; replace p241 := eq_true p241; replace q241 := eq_true q241; obtain ⟨i064, hi064, _, hsz64, _⟩ := info_parts info5; obtain ⟨A64, hcut64, hA64, hC64⟩ := print_drop_of (P := Try.prog) (Value.int .u8) 0 22 5 .i64 Try.underlying22 hi064 hsz64 A241_1 c241_1 ((rd_T66 l0_1 x9_3).f1) 4 (by omega) (of_decide_eq_true (by first | (with_reducible assumption) | assumption)) HC241_1.out; have HR242 := Aside0.mk (Kd.C_of_reads (h1 := fun _ => rfl) (hA64 _ (Kd.reads_of_C HR241_1.out))); have HC242 := Aside0.mk hC64; clear hA64 hC64 hi064 hsz64) | ((with_reducible refine gate_builtin (b := .append) (xs := #[.tmp 93, .tmp 100]) rfl ?_); at_builtin; refine Kd.R_append_rows (Kd.int .u8) (w0 := w) w.heap.size rfl (.tmp 93) (.tmp 100) 22 5 (.int .u8 0) 1 rfl Try.underlying22 info5 rfl (by decide) (by omega) v239 y238 (((rd_T66 l0_1 x9_3).f1).drop 4) _ _ _ (fun k_ => some k_ ≠ (.slice Ao62 y235.length co62 : Value).ownBlock) (fun _ => False) rfl rfl ?aO ?aR (fun _ _ h => h) (fun _ h => h.elim) ?aF ?aB ?aS ?aL ?_; (case aR => first | (rw [← show (((rd_T66 l0_1 x9_3).f1).drop 4).length = (((rd_T66 l0_1 x9_3).f1).length - 4) from List.length_drop]; repeat (first | exact (Kd.C_below HR242.out HB.out) | (with_reducible refine Kd.C_alloc ?_ _) | (with_reducible refine Kd.C_drewN ?_ _) | (with_reducible refine Kd.C_drew ?_))) | (repeat (first | exact (Kd.C_below HR242.out HB.out) | (with_reducible refine Kd.C_alloc ?_ _) | (with_reducible refine Kd.C_drewN ?_ _) | (with_reducible refine Kd.C_drew ?_)))); (case aB => exact (by repeat (first | (with_reducible first | exact HB.out | apply below_alloc | apply pw_below_drewN | apply below_drew1 | refine below_set ?_ GE191.out) | exact HB.out))); (case aF => exact (fun k_ hk => Kd.fresh' (Kd.R_lt (by (with_reducible repeat (first | apply Kd.R_alloc | apply Kd.R_drewN | apply Kd.R_drew)); exact HO237.out)) k_ hk)); (case aO => exact (by (with_reducible repeat (first | apply Kd.R_alloc | apply Kd.R_drewN | apply Kd.R_drew)); exact HO240.out)); (case aS => exact (below_size (by repeat (first | (with_reducible first | exact HB.out | apply below_alloc | apply pw_below_drewN | apply below_drew1 | refine below_set ?_ GE191.out) | exact HB.out)))); (case aL => have := LMc57.out; have hlx_ := (show (((rd_T66 l0_1 x9_3).f1).drop 4).length = (((rd_T66 l0_1 x9_3).f1).length - 4) from List.length_drop); omega); intro v244 w65 ho hb hg hat; rw [← Ny243.out] at ho; have n0_ := Aside0.mk (blk_grown (g := gb191) (o := .cells #[.int .u64 a0_0, .slice (some ad233) l0_1.length c0_1, .slice A0_2 l0_2.length c0_2] 60 (0, 0)) (by (with_reducible repeat (first | refine blk_drewN ?_ _ | refine blk_drew ?_ | refine blk_alloc ?_ _)); exact BK191.out) hg (Kd.R_ne HO240.out BK191.out (by decide))); have n1_ := Aside0.mk (Kd.R_after (ok := (fun _ => True)) (by (with_reducible repeat (first | apply Kd.R_alloc | apply Kd.R_drewN | apply Kd.R_drew)); exact HO237.out) hg hat); have n2_ := Aside0.mk (hb); have n3_ := Aside0.mk (ho); clear BK191; clear HO237; clear HB; clear HO240; have BK191 := n0_; have HO237 := n1_; have HB := n2_; have HO245 := n3_; clear n0_ n1_ n2_ n3_; clear ho hb hg hat))
                go_roundg k3
                case measure => have := HK1.out; have := HK2.out; have := HK3.out; omega
                case rel => exact ⟨(y243), (wrap64 (x9_3 + 1)), (by first | rfl | (simp; done) | (simp [*]; done)), H', ⟨by have := HK1.out; have := HK2.out; have := HK3.out; omega⟩, ⟨by (with_reducible repeat (first | apply Kd.R_alloc | apply Kd.R_drewN | apply Kd.R_drew)); exact Kd.R_mono HO245.out (fun _ hk => trivial)⟩, ⟨by (with_reducible repeat (first | refine blk_drewN ?_ _ | refine blk_drew ?_ | refine blk_alloc ?_ _)); exact BK191.out⟩, ⟨by repeat (first | (with_reducible first | exact HB.out | apply below_alloc | apply pw_below_drewN | apply below_drew1 | refine below_set ?_ GE191.out) | exact HB.out)⟩⟩
  · replace c3 := Bool.eq_false_iff.mpr c3
    subst c3
    have H1 : (some (([] : List Int), 17)) = some (r1, r2) := by rw [if_neg (show ¬ (false = true) by decide)] at H; exact H
    clear H
    have H := H1
    clear H1
    simp only [Option.some.injEq, Prod.mk.injEq] at H
    obtain ⟨rfl, rfl⟩ := H
    go_enter Try.func76, Try.ntmps76
    go_wp2_with (first | ((with_reducible refine gate_dst (N := 1) rfl ?_); refine box_event ?hg (N := 1) ?hd (cs := #[.int .u64 a0_0, .slice A0_1 l0_1.length c0_1, .slice A0_2 l0_2.length c0_2]) (t := 60) ?hr ?_; (case hd => rfl); (case hg => rfl); (case hr => go_simp; first | done | rfl); intro gb191 hg w85 hbox hb; have n0_ := Aside0.mk (below_step (by repeat (first | (with_reducible first | exact HB.out | apply below_alloc | apply pw_below_drewN | apply below_drew1) | exact HB.out)) hb); have n1_ := Aside0.mk (hbox); have n2_ := Aside0.mk ((by rw [hg]; exact (below_size (by repeat (first | (with_reducible first | exact HB.out | apply below_alloc | apply pw_below_drewN | apply below_drew1) | exact HB.out))) : w.heap.size ≤ gb191)); have n3_ := Aside0.mk ((by rw [hg]; exact (below_size (by repeat (first | (with_reducible first | exact HB.out | apply below_alloc | apply pw_below_drewN | apply below_drew1) | exact HB.out))) : w.heap.size ≤ gb191)); clear HB; have HB := n0_; have BK191 := n1_; have GW191 := n2_; have GE191 := n3_; clear n0_ n1_ n2_ n3_; clear hb hbox hg; have hcz86_0 : w85.cell? ⟨gb191, 0, none⟩ = some (.int .u64 a0_0) := (blk_cell BK191.out 0).trans rfl; have hcz86_1 : w85.cell? ⟨gb191, 1, none⟩ = some (.slice A0_1 l0_1.length c0_1) := (blk_cell BK191.out 1).trans rfl; have hcz86_2 : w85.cell? ⟨gb191, 2, none⟩ = some (.slice A0_2 l0_2.length c0_2) := (blk_cell BK191.out 2).trans rfl; have hfz86_0 := blk_frozen BK191.out 0; have hfz86_1 := blk_frozen BK191.out 1; have hfz86_2 := blk_frozen BK191.out 2) | ((with_reducible refine gate_callee (f := 83) rfl ?_); refine goesL_ (some 12) rfl rfl Try.func83 (by kernel_rfl) rfl #[.agg #[.int .u64 a0_0, .slice A0_1 l0_1.length c0_1, .slice A0_2 l0_2.length c0_2]] rfl (by (try simp only [List.map_toArray, List.map_cons, List.map_nil]); first | done | rfl | (simp only [List.length_drop, List.length_take]; rfl)) ?_; (with_reducible refine (undercroftref03_May.calls a0_0 _ _ l0_1 _ _ l0_2 false _ ?side1 ?side2 ?side3 ?side4 A2.out).mono ?_); (case side1 => repeat (first | exact (Kd.C_below HR0_1.out HB.out) | (with_reducible refine Kd.C_alloc ?_ _) | (with_reducible refine Kd.C_drewN ?_ _) | (with_reducible refine Kd.C_drew ?_))); (case side2 => exact HC0_1.out); (case side3 => repeat (first | exact (Kd.C_below HR0_2.out HB.out) | (with_reducible refine Kd.C_alloc ?_ _) | (with_reducible refine Kd.C_drewN ?_ _) | (with_reducible refine Kd.C_drew ?_))); (case side4 => exact HC0_2.out); rintro e w87 ⟨rfl, hb⟩; refine ⟨_, rfl, ?_⟩; have n0_ := Aside0.mk (blk_below (g := gb191) (o := .cells #[.int .u64 a0_0, .slice A0_1 l0_1.length c0_1, .slice A0_2 l0_2.length c0_2] 60 (0, 0)) (by (with_reducible repeat (first | refine blk_drewN ?_ _ | refine blk_drew ?_ | refine blk_alloc ?_ _)); exact BK191.out) hb); have n1_ := Aside0.mk (below_step (by repeat (first | (with_reducible first | exact HB.out | apply below_alloc | apply pw_below_drewN | apply below_drew1 | refine below_set ?_ GE191.out) | exact HB.out)) hb); clear BK191; clear HB; have BK191 := n0_; have HB := n1_; clear n0_ n1_; (try clear hb); (try clear hb2); (try clear hk); (try clear hi)))
    go_ret2
    exact ⟨_, by first | rfl | (simp [errW_none, errW_some] <;> rfl) | (simp [*, errW_none, errW_some] <;> rfl), by first | exact Kd.R_nil _ _ _ _ _ | exact Kd.N_nil _ _ _ _ _ | exact Kd.V_nil _ _ _ _ _ | exact Kd.Q_nil _ _ _ _ _ | exact Kd.S_nil _ _ _ _ _, by repeat (first | (with_reducible first | exact HB.out | apply below_alloc | apply pw_below_drewN | apply below_drew1 | refine below_set ?_ GE191.out) | exact HB.out)⟩
end Go.Proofs.Ytlbfpjhnpnbikaa.U
