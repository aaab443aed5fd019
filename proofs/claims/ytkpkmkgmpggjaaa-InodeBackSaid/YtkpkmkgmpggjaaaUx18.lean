/- Written by uprint.py (ours) for this seat: functions of the translation as Lean functions, and what their calls do. Not trusted: Lean checks it. -/
import Derived.Test.YtkpkmkgmpggjaaaUx0
import Derived.Test.YtkpkmkgmpggjaaaUx5
import Derived.Test.YtkpkmkgmpggjaaaUx7
import Derived.Test.YtkpkmkgmpggjaaaUx8
import Derived.Test.YtkpkmkgmpggjaaaUx10
import Derived.Test.YtkpkmkgmpggjaaaUx13
namespace Go.Proofs.Ytkpkmkgmpggjaaa.U
open Go.RowKit Go.Proofs.YtkpkmkgmpggjaaaW.PrintWords Go.Proofs.YtkpkmkgmpggjaaaW.PrintLast Go.Proofs.YtkpkmkgmpggjaaaW.PrintMore
attribute [local go_sem] max2_int min2_int max_two min_two max_three min_three max_four min_four   -- for this text's walks alone
set_option linter.unusedVariables false
set_option linter.unusedSimpArgs false

/-! ### undercroftlaw09_InodeBack: function 5 -/
def undercroftlaw09_InodeBack.j1 : Nat → Int → Int → Bool → Int → Int → Int → Bool → Int → List Int → Int → Int → Int → Bool → Int → List Int → Option (Bool)
  | 0, _, _, _, _, _, _, _, _, _, _, _, _, _, _, _ => none
  | k + 1, x2, x12, x58, x312000, x312001, x312002, x312003, x312004, x312005, x337000, x337001, x337002, x337003, x337004, x337005 => if x58 = true then (if x12 = 0 then ((undercroftref09_Same.f x312000 x312001 x312002 x312003 x312004 x312005 x337000 x337001 x337002 x337003 x337004 x337005).bind fun t338 => (if t338 = true then (some true) else (if x2 < 0 then (some true) else (some (decide (x2 > 1048576)))))) else (if x2 < 0 then (some true) else (some (decide (x2 > 1048576))))) else (if x12 = 0 then (some false) else ((undercroftref09_None.f x337000 x337001 x337002 x337003 x337004 x337005).bind fun t339 => (some t339)))
def undercroftlaw09_InodeBack.j0 : Nat → Int → Int → Int → Bool → Int → Int → Int → Bool → Int → List Int → Int → Int → Int → Bool → Int → List Int → Option (Bool)
  | 0, _, _, _, _, _, _, _, _, _, _, _, _, _, _, _, _ => none
  | k + 1, x1, x2, x12, x50, x312000, x312001, x312002, x312003, x312004, x312005, x337000, x337001, x337002, x337003, x337004, x337005 => if x50 = true then (some false) else (if x312000 = 0 then (undercroftlaw09_InodeBack.j1 k x2 x12 true x312000 x312001 x312002 x312003 x312004 x312005 x337000 x337001 x337002 x337003 x337004 x337005) else (undercroftlaw09_InodeBack.j1 k x2 x12 (x2 == x1) x312000 x312001 x312002 x312003 x312004 x312005 x337000 x337001 x337002 x337003 x337004 x337005))
def undercroftlaw09_InodeBack.f (k : Nat) (a0_0 : Int) (a0_1 : Int) (a0_2 : Int) (a0_3 : Bool) (a0_4 : Int) (l0_5 : List Int) (a1 : Int) (a2 : Int) : Option (Bool) := (undercroftlaw09_alive.f k).bind fun t312 => (if t312 = true then ((inode_Encode.f a0_0 a0_1 a0_2 a0_3 a0_4 l0_5 a1).bind fun bt313 => (if bt313.2 = 0 then ((inode_Decode.f k bt313.1 a1).bind fun bt317 => ((inode_Decode.f k bt313.1 a2).bind fun bt327 => (if bt317.2.2.2.2.2.2 = 0 then ((undercroftref09_Same.f a0_0 a0_1 a0_2 a0_3 a0_4 l0_5 bt317.1 bt317.2.1 bt317.2.2.1 bt317.2.2.2.1 bt317.2.2.2.2.1 bt317.2.2.2.2.2.1).bind fun t337 => (if t337 = true then (undercroftlaw09_InodeBack.j0 k a1 a2 bt327.2.2.2.2.2.2 ((bt313.1.length : Int) != 128) a0_0 a0_1 a0_2 a0_3 a0_4 l0_5 bt327.1 bt327.2.1 bt327.2.2.1 bt327.2.2.2.1 bt327.2.2.2.2.1 bt327.2.2.2.2.2.1) else (undercroftlaw09_InodeBack.j0 k a1 a2 bt327.2.2.2.2.2.2 true a0_0 a0_1 a0_2 a0_3 a0_4 l0_5 bt327.1 bt327.2.1 bt327.2.2.1 bt327.2.2.2.1 bt327.2.2.2.2.1 bt327.2.2.2.2.2.1))) else (undercroftlaw09_InodeBack.j0 k a1 a2 bt327.2.2.2.2.2.2 true a0_0 a0_1 a0_2 a0_3 a0_4 l0_5 bt327.1 bt327.2.1 bt327.2.2.1 bt327.2.2.2.1 bt327.2.2.2.2.1 bt327.2.2.2.2.2.1)))) else (some ((bt313.1.length : Int) == 0)))) else (some false))
theorem undercroftlaw09_InodeBack.mono_l : ∀ k, (∀ y0 y1 y2 y3 y4 y5 y6 y7 y8 y9 y10 y11 y12 y13 y14 y15, LeO (undercroftlaw09_InodeBack.j0 k y0 y1 y2 y3 y4 y5 y6 y7 y8 y9 y10 y11 y12 y13 y14 y15) (undercroftlaw09_InodeBack.j0 (k + 1) y0 y1 y2 y3 y4 y5 y6 y7 y8 y9 y10 y11 y12 y13 y14 y15)) ∧ (∀ y0 y1 y2 y3 y4 y5 y6 y7 y8 y9 y10 y11 y12 y13 y14, LeO (undercroftlaw09_InodeBack.j1 k y0 y1 y2 y3 y4 y5 y6 y7 y8 y9 y10 y11 y12 y13 y14) (undercroftlaw09_InodeBack.j1 (k + 1) y0 y1 y2 y3 y4 y5 y6 y7 y8 y9 y10 y11 y12 y13 y14))
  | 0 => ⟨fun _ _ _ _ _ _ _ _ _ _ _ _ _ _ _ _ r h => by simp [undercroftlaw09_InodeBack.j0] at h, fun _ _ _ _ _ _ _ _ _ _ _ _ _ _ _ r h => by simp [undercroftlaw09_InodeBack.j1] at h⟩
  | k + 1 => by
    obtain ⟨ih0, ih1⟩ := undercroftlaw09_InodeBack.mono_l k
    refine ⟨?_, ?_⟩
    · intro y0 y1 y2 y3 y4 y5 y6 y7 y8 y9 y10 y11 y12 y13 y14 y15
      unfold undercroftlaw09_InodeBack.j0
      repeat' first
      | (with_reducible exact ih0 _ _ _ _ _ _ _ _ _ _ _ _ _ _ _ _)
      | (with_reducible exact ih1 _ _ _ _ _ _ _ _ _ _ _ _ _ _ _)
      | (with_reducible exact inode_Decode.mono _ _ _)
      | (with_reducible exact undercroftlaw09_alive.mono _)
      | (with_reducible exact LeO.refl _)
      | (with_reducible exact LeO.none _)
      | (with_reducible refine LeO.ite ?_ ?_)
      | (with_reducible refine LeO.bind ?_ (fun _ => ?_))
      | exact ih0 _ _ _ _ _ _ _ _ _ _ _ _ _ _ _ _
      | exact ih1 _ _ _ _ _ _ _ _ _ _ _ _ _ _ _
      | exact inode_Decode.mono _ _ _
      | exact undercroftlaw09_alive.mono _
      | exact LeO.none _
      | refine LeO.ite ?_ ?_
      | refine LeO.bind ?_ (fun _ => ?_)
    · intro y0 y1 y2 y3 y4 y5 y6 y7 y8 y9 y10 y11 y12 y13 y14
      unfold undercroftlaw09_InodeBack.j1
      repeat' first
      | (with_reducible exact ih0 _ _ _ _ _ _ _ _ _ _ _ _ _ _ _ _)
      | (with_reducible exact ih1 _ _ _ _ _ _ _ _ _ _ _ _ _ _ _)
      | (with_reducible exact inode_Decode.mono _ _ _)
      | (with_reducible exact undercroftlaw09_alive.mono _)
      | (with_reducible exact LeO.refl _)
      | (with_reducible exact LeO.none _)
      | (with_reducible refine LeO.ite ?_ ?_)
      | (with_reducible refine LeO.bind ?_ (fun _ => ?_))
      | exact ih0 _ _ _ _ _ _ _ _ _ _ _ _ _ _ _ _
      | exact ih1 _ _ _ _ _ _ _ _ _ _ _ _ _ _ _
      | exact inode_Decode.mono _ _ _
      | exact undercroftlaw09_alive.mono _
      | exact LeO.none _
      | refine LeO.ite ?_ ?_
      | refine LeO.bind ?_ (fun _ => ?_)
theorem undercroftlaw09_InodeBack.mono : ∀ a0 a1 a2 a3 a4 a5 a6 a7 k, LeO (undercroftlaw09_InodeBack.f k a0 a1 a2 a3 a4 a5 a6 a7) (undercroftlaw09_InodeBack.f (k + 1) a0 a1 a2 a3 a4 a5 a6 a7) := by
  intro a0 a1 a2 a3 a4 a5 a6 a7 k
  obtain ⟨ih0, ih1⟩ := undercroftlaw09_InodeBack.mono_l k
  unfold undercroftlaw09_InodeBack.f
  repeat' first
      | (with_reducible exact ih0 _ _ _ _ _ _ _ _ _ _ _ _ _ _ _ _)
      | (with_reducible exact ih1 _ _ _ _ _ _ _ _ _ _ _ _ _ _ _)
      | (with_reducible exact inode_Decode.mono _ _ _)
      | (with_reducible exact undercroftlaw09_alive.mono _)
      | (with_reducible exact LeO.refl _)
      | (with_reducible exact LeO.none _)
      | (with_reducible refine LeO.ite ?_ ?_)
      | (with_reducible refine LeO.bind ?_ (fun _ => ?_))
      | exact ih0 _ _ _ _ _ _ _ _ _ _ _ _ _ _ _ _
      | exact ih1 _ _ _ _ _ _ _ _ _ _ _ _ _ _ _
      | exact inode_Decode.mono _ _ _
      | exact undercroftlaw09_alive.mono _
      | exact LeO.none _
      | refine LeO.ite ?_ ?_
      | refine LeO.bind ?_ (fun _ => ?_)
set_option maxHeartbeats 8000000 in
set_option maxRecDepth 100000 in
theorem undercroftlaw09_InodeBack.calls (k : Nat) (a0_0 : Int) (a0_1 : Int) (a0_2 : Int) (a0_3 : Bool) (a0_4 : Int) (A0_5 : Option Addr) (c0_5 : Nat) (l0_5 : List Int) (a1 : Int) (a2 : Int) (r : Bool) (w : World) (hr0_5 : Kd.C (Kd.int .u8) w A0_5 l0_5.length l0_5) (hc0_5 : l0_5.length ≤ c0_5) (h : undercroftlaw09_InodeBack.f k a0_0 a0_1 a0_2 a0_3 a0_4 l0_5 a1 a2 = some r) (hT : r = true) :
    Calls Try.prog 5 #[.agg #[.int .i64 a0_0, .int .i64 a0_1, .int .i64 a0_2, .bool a0_3, .int .i64 a0_4, .slice A0_5 l0_5.length c0_5], .int .i64 a1, .int .i64 a2] w fun e w' => e = .returned (.bool r) ∧ Below w.heap.size w w' := by
  have hu24 := Try.underlying24
  have HR0_5 := Aside0.mk hr0_5
  have HC0_5 := Aside0.mk hc0_5
  clear hr0_5 hc0_5
  have HB := Aside0.mk (Below.refl w.heap.size w)
  have H : ((undercroftlaw09_alive.f k).bind fun t312 => (if t312 = true then ((inode_Encode.f a0_0 a0_1 a0_2 a0_3 a0_4 l0_5 a1).bind fun bt313 => (if bt313.2 = 0 then ((inode_Decode.f k bt313.1 a1).bind fun bt317 => ((inode_Decode.f k bt313.1 a2).bind fun bt327 => (if bt317.2.2.2.2.2.2 = 0 then ((undercroftref09_Same.f a0_0 a0_1 a0_2 a0_3 a0_4 l0_5 bt317.1 bt317.2.1 bt317.2.2.1 bt317.2.2.2.1 bt317.2.2.2.2.1 bt317.2.2.2.2.2.1).bind fun t337 => (if t337 = true then (undercroftlaw09_InodeBack.j0 k a1 a2 bt327.2.2.2.2.2.2 ((bt313.1.length : Int) != 128) a0_0 a0_1 a0_2 a0_3 a0_4 l0_5 bt327.1 bt327.2.1 bt327.2.2.1 bt327.2.2.2.1 bt327.2.2.2.2.1 bt327.2.2.2.2.2.1) else (undercroftlaw09_InodeBack.j0 k a1 a2 bt327.2.2.2.2.2.2 true a0_0 a0_1 a0_2 a0_3 a0_4 l0_5 bt327.1 bt327.2.1 bt327.2.2.1 bt327.2.2.2.1 bt327.2.2.2.2.1 bt327.2.2.2.2.2.1))) else (undercroftlaw09_InodeBack.j0 k a1 a2 bt327.2.2.2.2.2.2 true a0_0 a0_1 a0_2 a0_3 a0_4 l0_5 bt327.1 bt327.2.1 bt327.2.2.1 bt327.2.2.2.1 bt327.2.2.2.2.1 bt327.2.2.2.2.2.1)))) else (some ((bt313.1.length : Int) == 0)))) else (some false))) = some r := h
  clear h
  replace H := Option.bind_eq_some_iff.mp H
  obtain ⟨t312, A40, H⟩ := H
  replace H : (if t312 = true then ((inode_Encode.f a0_0 a0_1 a0_2 a0_3 a0_4 l0_5 a1).bind fun bt313 => (if bt313.2 = 0 then ((inode_Decode.f k bt313.1 a1).bind fun bt317 => ((inode_Decode.f k bt313.1 a2).bind fun bt327 => (if bt317.2.2.2.2.2.2 = 0 then ((undercroftref09_Same.f a0_0 a0_1 a0_2 a0_3 a0_4 l0_5 bt317.1 bt317.2.1 bt317.2.2.1 bt317.2.2.2.1 bt317.2.2.2.2.1 bt317.2.2.2.2.2.1).bind fun t337 => (if t337 = true then (undercroftlaw09_InodeBack.j0 k a1 a2 bt327.2.2.2.2.2.2 ((bt313.1.length : Int) != 128) a0_0 a0_1 a0_2 a0_3 a0_4 l0_5 bt327.1 bt327.2.1 bt327.2.2.1 bt327.2.2.2.1 bt327.2.2.2.2.1 bt327.2.2.2.2.2.1) else (undercroftlaw09_InodeBack.j0 k a1 a2 bt327.2.2.2.2.2.2 true a0_0 a0_1 a0_2 a0_3 a0_4 l0_5 bt327.1 bt327.2.1 bt327.2.2.1 bt327.2.2.2.1 bt327.2.2.2.2.1 bt327.2.2.2.2.2.1))) else (undercroftlaw09_InodeBack.j0 k a1 a2 bt327.2.2.2.2.2.2 true a0_0 a0_1 a0_2 a0_3 a0_4 l0_5 bt327.1 bt327.2.1 bt327.2.2.1 bt327.2.2.2.1 bt327.2.2.2.2.1 bt327.2.2.2.2.2.1)))) else (some ((bt313.1.length : Int) == 0)))) else (some false)) = some r := H
  have A4 := Aside0.mk A40
  clear A40
  by_cases c5 : t312 = true
  · subst c5
    have H1 : ((inode_Encode.f a0_0 a0_1 a0_2 a0_3 a0_4 l0_5 a1).bind fun bt313 => (if bt313.2 = 0 then ((inode_Decode.f k bt313.1 a1).bind fun bt317 => ((inode_Decode.f k bt313.1 a2).bind fun bt327 => (if bt317.2.2.2.2.2.2 = 0 then ((undercroftref09_Same.f a0_0 a0_1 a0_2 a0_3 a0_4 l0_5 bt317.1 bt317.2.1 bt317.2.2.1 bt317.2.2.2.1 bt317.2.2.2.2.1 bt317.2.2.2.2.2.1).bind fun t337 => (if t337 = true then (undercroftlaw09_InodeBack.j0 k a1 a2 bt327.2.2.2.2.2.2 ((bt313.1.length : Int) != 128) a0_0 a0_1 a0_2 a0_3 a0_4 l0_5 bt327.1 bt327.2.1 bt327.2.2.1 bt327.2.2.2.1 bt327.2.2.2.2.1 bt327.2.2.2.2.2.1) else (undercroftlaw09_InodeBack.j0 k a1 a2 bt327.2.2.2.2.2.2 true a0_0 a0_1 a0_2 a0_3 a0_4 l0_5 bt327.1 bt327.2.1 bt327.2.2.1 bt327.2.2.2.1 bt327.2.2.2.2.1 bt327.2.2.2.2.2.1))) else (undercroftlaw09_InodeBack.j0 k a1 a2 bt327.2.2.2.2.2.2 true a0_0 a0_1 a0_2 a0_3 a0_4 l0_5 bt327.1 bt327.2.1 bt327.2.2.1 bt327.2.2.2.1 bt327.2.2.2.2.1 bt327.2.2.2.2.2.1)))) else (some ((bt313.1.length : Int) == 0)))) = some r := by rw [if_pos rfl] at H; exact H
    clear H
    have H := H1
    clear H1
    replace H := Option.bind_eq_some_iff.mp H
    obtain ⟨⟨t313, t316⟩, A60, H⟩ := H
    replace H : (if t316 = 0 then ((inode_Decode.f k t313 a1).bind fun bt317 => ((inode_Decode.f k t313 a2).bind fun bt327 => (if bt317.2.2.2.2.2.2 = 0 then ((undercroftref09_Same.f a0_0 a0_1 a0_2 a0_3 a0_4 l0_5 bt317.1 bt317.2.1 bt317.2.2.1 bt317.2.2.2.1 bt317.2.2.2.2.1 bt317.2.2.2.2.2.1).bind fun t337 => (if t337 = true then (undercroftlaw09_InodeBack.j0 k a1 a2 bt327.2.2.2.2.2.2 ((t313.length : Int) != 128) a0_0 a0_1 a0_2 a0_3 a0_4 l0_5 bt327.1 bt327.2.1 bt327.2.2.1 bt327.2.2.2.1 bt327.2.2.2.2.1 bt327.2.2.2.2.2.1) else (undercroftlaw09_InodeBack.j0 k a1 a2 bt327.2.2.2.2.2.2 true a0_0 a0_1 a0_2 a0_3 a0_4 l0_5 bt327.1 bt327.2.1 bt327.2.2.1 bt327.2.2.2.1 bt327.2.2.2.2.1 bt327.2.2.2.2.2.1))) else (undercroftlaw09_InodeBack.j0 k a1 a2 bt327.2.2.2.2.2.2 true a0_0 a0_1 a0_2 a0_3 a0_4 l0_5 bt327.1 bt327.2.1 bt327.2.2.1 bt327.2.2.2.1 bt327.2.2.2.2.1 bt327.2.2.2.2.2.1)))) else (some ((t313.length : Int) == 0))) = some r := H
    have A6 := Aside0.mk A60
    clear A60
    by_cases c7 : t316 = 0
    rotate_left
    · rw [if_neg c7] at H
      have c7b0 : (t316 == 0) = false := beq_eq_false_iff_ne.mpr c7
      have c7b1 : (t316 != 0) = true := bne_iff_ne.mpr c7
      obtain rfl := Option.some.inj H
      go_enter Try.func5, Try.ntmps5
      go_wp2_with (first | ((with_reducible refine gate_dst (N := 3) rfl ?_); (try (refine gate_guard (by rfl) ?_; dsimp only)); refine box_event ?hg (N := 3) ?hd (cs := #[.int .i64 a0_0, .int .i64 a0_1, .int .i64 a0_2, .bool a0_3, .int .i64 a0_4, .slice A0_5 l0_5.length c0_5]) (t := 24) ?hr ?_; (case hd => rfl); (case hg => rfl); (case hr => first | (go_simp; done) | (go_simp; rfl)); intro gb311 hg w81 hbox hb; have n0_ := Aside0.mk (below_step (by repeat (first | (with_reducible first | exact HB.out | apply below_alloc | apply pw_below_drewN | apply below_drew1) | exact HB.out)) hb); have n1_ := Aside0.mk (hbox); have n2_ := Aside0.mk ((by rw [hg]; exact (below_size (by repeat (first | (with_reducible first | exact HB.out | apply below_alloc | apply pw_below_drewN | apply below_drew1) | exact HB.out))) : w.heap.size ≤ gb311)); have n3_ := Aside0.mk ((by rw [hg]; exact (below_size (by repeat (first | (with_reducible first | exact HB.out | apply below_alloc | apply pw_below_drewN | apply below_drew1) | exact HB.out))) : w.heap.size ≤ gb311)); clear HB; have HB := n0_; have BK311 := n1_; have GW311 := n2_; have GE311 := n3_; clear n0_ n1_ n2_ n3_; clear hb hbox hg) | ((with_reducible refine gate_callee (f := 8) rfl ?_); refine goesL_ (some 13) rfl rfl Try.func8 (by kernel_rfl) rfl #[] rfl (by (try simp only [List.map_toArray, List.map_cons, List.map_nil]); first | done | rfl | (simp only [List.length_drop, List.length_take]; rfl)) ?_; (with_reducible refine (undercroftlaw09_alive.calls k  true _ A4.out rfl).mono ?_); rintro e w82 ⟨rfl, hb⟩; refine ⟨_, rfl, ?_⟩; have n0_ := Aside0.mk (blk_below (g := gb311) (o := .cells #[.int .i64 a0_0, .int .i64 a0_1, .int .i64 a0_2, .bool a0_3, .int .i64 a0_4, .slice A0_5 l0_5.length c0_5] 24 (0, 0)) (by (with_reducible repeat (first | refine blk_drewN ?_ _ | refine blk_drew ?_ | refine blk_alloc ?_ _)); exact BK311.out) hb); have n1_ := Aside0.mk (below_step (by repeat (first | (with_reducible first | exact HB.out | apply below_alloc | apply pw_below_drewN | apply below_drew1 | refine below_set ?_ GE311.out) | exact HB.out)) hb); clear BK311; clear HB; have BK311 := n0_; have HB := n1_; clear n0_ n1_; (try clear hb); (try clear hb2); (try clear hk); (try clear hi); have hcz83_0 : w82.cell? ⟨gb311, 0, none⟩ = some (.int .i64 a0_0) := (blk_cell BK311.out 0).trans rfl; have hcz83_1 : w82.cell? ⟨gb311, 1, none⟩ = some (.int .i64 a0_1) := (blk_cell BK311.out 1).trans rfl; have hcz83_2 : w82.cell? ⟨gb311, 2, none⟩ = some (.int .i64 a0_2) := (blk_cell BK311.out 2).trans rfl; have hcz83_3 : w82.cell? ⟨gb311, 3, none⟩ = some (.bool a0_3) := (blk_cell BK311.out 3).trans rfl; have hcz83_4 : w82.cell? ⟨gb311, 4, none⟩ = some (.int .i64 a0_4) := (blk_cell BK311.out 4).trans rfl; have hcz83_5 : w82.cell? ⟨gb311, 5, none⟩ = some (.slice A0_5 l0_5.length c0_5) := (blk_cell BK311.out 5).trans rfl; have hfz83_0 := blk_frozen BK311.out 0; have hfz83_1 := blk_frozen BK311.out 1; have hfz83_2 := blk_frozen BK311.out 2; have hfz83_3 := blk_frozen BK311.out 3; have hfz83_4 := blk_frozen BK311.out 4; have hfz83_5 := blk_frozen BK311.out 5) | ((with_reducible refine gate_callee (f := 10) rfl ?_); refine goesL_ (some 18) rfl rfl Try.func10 (by kernel_rfl) rfl #[.agg #[.int .i64 a0_0, .int .i64 a0_1, .int .i64 a0_2, .bool a0_3, .int .i64 a0_4, .slice A0_5 l0_5.length c0_5], .int .i64 a1] rfl (by (try simp only [List.map_toArray, List.map_cons, List.map_nil]); first | done | rfl | (simp only [List.length_drop, List.length_take]; rfl)) ?_; (with_reducible refine (inode_Encode.calls a0_0 a0_1 a0_2 a0_3 a0_4 _ _ l0_5 a1 t313 t316 _ ?side1 ?side2 A6.out).mono ?_); (case side1 => repeat (first | exact (Kd.C_below HR0_5.out HB.out) | (with_reducible refine Kd.C_alloc ?_ _) | (with_reducible refine Kd.C_drewN ?_ _) | (with_reducible refine Kd.C_drew ?_))); (case side2 => exact HC0_5.out); rintro e w84 ⟨v314, rfl, ho0, hb⟩; refine ⟨_, rfl, ?_⟩; have n0_ := Aside0.mk (Kd.R_lower ho0 (below_size (by repeat (first | (with_reducible first | exact HB.out | apply below_alloc | apply pw_below_drewN | apply below_drew1 | refine below_set ?_ GE311.out) | exact HB.out)))); have n1_ := Aside0.mk (blk_below (g := gb311) (o := .cells #[.int .i64 a0_0, .int .i64 a0_1, .int .i64 a0_2, .bool a0_3, .int .i64 a0_4, .slice A0_5 l0_5.length c0_5] 24 (0, 0)) (by (with_reducible repeat (first | refine blk_drewN ?_ _ | refine blk_drew ?_ | refine blk_alloc ?_ _)); exact BK311.out) hb); have n2_ := Aside0.mk (below_step (by repeat (first | (with_reducible first | exact HB.out | apply below_alloc | apply pw_below_drewN | apply below_drew1 | refine below_set ?_ GE311.out) | exact HB.out)) hb); clear BK311; clear HB; have HO315 := n0_; have BK311 := n1_; have HB := n2_; clear n0_ n1_ n2_; (try clear hb); (try clear hb2); (try clear hk); (try clear hi); (try clear ho0); obtain ⟨Ao85, co85, eo85⟩ := Kd.R_slice HO315.out; subst eo85))
      go_ret
      exact ⟨by first | rfl | (simp [errW_none, errW_some] <;> rfl) | (simp [*, errW_none, errW_some] <;> rfl), by repeat (first | (with_reducible first | exact HB.out | apply below_alloc | apply pw_below_drewN | apply below_drew1 | refine below_set ?_ GE311.out) | exact HB.out)⟩
    rw [if_pos c7] at H
    have c7b0 : (t316 == 0) = true := beq_iff_eq.mpr c7
    have c7b1 : (t316 != 0) = false := bne_eq_false_iff_eq.mpr c7
    clear c7
    replace H := Option.bind_eq_some_iff.mp H
    obtain ⟨⟨t317, t318, t319, t320, t321, t322, t325⟩, A80, H⟩ := H
    replace H : ((inode_Decode.f k t313 a2).bind fun bt327 => (if t325 = 0 then ((undercroftref09_Same.f a0_0 a0_1 a0_2 a0_3 a0_4 l0_5 t317 t318 t319 t320 t321 t322).bind fun t337 => (if t337 = true then (undercroftlaw09_InodeBack.j0 k a1 a2 bt327.2.2.2.2.2.2 ((t313.length : Int) != 128) a0_0 a0_1 a0_2 a0_3 a0_4 l0_5 bt327.1 bt327.2.1 bt327.2.2.1 bt327.2.2.2.1 bt327.2.2.2.2.1 bt327.2.2.2.2.2.1) else (undercroftlaw09_InodeBack.j0 k a1 a2 bt327.2.2.2.2.2.2 true a0_0 a0_1 a0_2 a0_3 a0_4 l0_5 bt327.1 bt327.2.1 bt327.2.2.1 bt327.2.2.2.1 bt327.2.2.2.2.1 bt327.2.2.2.2.2.1))) else (undercroftlaw09_InodeBack.j0 k a1 a2 bt327.2.2.2.2.2.2 true a0_0 a0_1 a0_2 a0_3 a0_4 l0_5 bt327.1 bt327.2.1 bt327.2.2.1 bt327.2.2.2.1 bt327.2.2.2.2.1 bt327.2.2.2.2.2.1))) = some r := H
    have A8 := Aside0.mk A80
    clear A80
    replace H := Option.bind_eq_some_iff.mp H
    obtain ⟨⟨t327, t328, t329, t330, t331, t332, t335⟩, A90, H⟩ := H
    replace H : (if t325 = 0 then ((undercroftref09_Same.f a0_0 a0_1 a0_2 a0_3 a0_4 l0_5 t317 t318 t319 t320 t321 t322).bind fun t337 => (if t337 = true then (undercroftlaw09_InodeBack.j0 k a1 a2 t335 ((t313.length : Int) != 128) a0_0 a0_1 a0_2 a0_3 a0_4 l0_5 t327 t328 t329 t330 t331 t332) else (undercroftlaw09_InodeBack.j0 k a1 a2 t335 true a0_0 a0_1 a0_2 a0_3 a0_4 l0_5 t327 t328 t329 t330 t331 t332))) else (undercroftlaw09_InodeBack.j0 k a1 a2 t335 true a0_0 a0_1 a0_2 a0_3 a0_4 l0_5 t327 t328 t329 t330 t331 t332)) = some r := H
    have A9 := Aside0.mk A90
    clear A90
    have HC10 := Aside0.mk H
    clear H
    go_enter Try.func5, Try.ntmps5
    go_upto_region 8 with (first | ((with_reducible refine gate_dst (N := 3) rfl ?_); (try (refine gate_guard (by rfl) ?_; dsimp only)); refine box_event ?hg (N := 3) ?hd (cs := #[.int .i64 a0_0, .int .i64 a0_1, .int .i64 a0_2, .bool a0_3, .int .i64 a0_4, .slice A0_5 l0_5.length c0_5]) (t := 24) ?hr ?_; (case hd => rfl); (case hg => rfl); (case hr => first | (go_simp; done) | (go_simp; rfl)); intro gb311 hg w11 hbox hb; have n0_ := Aside0.mk (below_step (by repeat (first | (with_reducible first | exact HB.out | apply below_alloc | apply pw_below_drewN | apply below_drew1) | exact HB.out)) hb); have n1_ := Aside0.mk (hbox); have n2_ := Aside0.mk ((by rw [hg]; exact (below_size (by repeat (first | (with_reducible first | exact HB.out | apply below_alloc | apply pw_below_drewN | apply below_drew1) | exact HB.out))) : w.heap.size ≤ gb311)); have n3_ := Aside0.mk ((by rw [hg]; exact (below_size (by repeat (first | (with_reducible first | exact HB.out | apply below_alloc | apply pw_below_drewN | apply below_drew1) | exact HB.out))) : w.heap.size ≤ gb311)); clear HB; have HB := n0_; have BK311 := n1_; have GW311 := n2_; have GE311 := n3_; clear n0_ n1_ n2_ n3_; clear hb hbox hg) | ((with_reducible refine gate_callee (f := 8) rfl ?_); refine goesL_ (some 13) rfl rfl Try.func8 (by kernel_rfl) rfl #[] rfl (by (try simp only [List.map_toArray, List.map_cons, List.map_nil]); first | done | rfl | (simp only [List.length_drop, List.length_take]; rfl)) ?_; (with_reducible refine (undercroftlaw09_alive.calls k  true _ A4.out rfl).mono ?_); rintro e w12 ⟨rfl, hb⟩; refine ⟨_, rfl, ?_⟩; have n0_ := Aside0.mk (blk_below (g := gb311) (o := .cells #[.int .i64 a0_0, .int .i64 a0_1, .int .i64 a0_2, .bool a0_3, .int .i64 a0_4, .slice A0_5 l0_5.length c0_5] 24 (0, 0)) (by (with_reducible repeat (first | refine blk_drewN ?_ _ | refine blk_drew ?_ | refine blk_alloc ?_ _)); exact BK311.out) hb); have n1_ := Aside0.mk (below_step (by repeat (first | (with_reducible first | exact HB.out | apply below_alloc | apply pw_below_drewN | apply below_drew1 | refine below_set ?_ GE311.out) | exact HB.out)) hb); clear BK311; clear HB; have BK311 := n0_; have HB := n1_; clear n0_ n1_; (try clear hb); (try clear hb2); (try clear hk); (try clear hi); have hcz13_0 : w12.cell? ⟨gb311, 0, none⟩ = some (.int .i64 a0_0) := (blk_cell BK311.out 0).trans rfl; have hcz13_1 : w12.cell? ⟨gb311, 1, none⟩ = some (.int .i64 a0_1) := (blk_cell BK311.out 1).trans rfl; have hcz13_2 : w12.cell? ⟨gb311, 2, none⟩ = some (.int .i64 a0_2) := (blk_cell BK311.out 2).trans rfl; have hcz13_3 : w12.cell? ⟨gb311, 3, none⟩ = some (.bool a0_3) := (blk_cell BK311.out 3).trans rfl; have hcz13_4 : w12.cell? ⟨gb311, 4, none⟩ = some (.int .i64 a0_4) := (blk_cell BK311.out 4).trans rfl; have hcz13_5 : w12.cell? ⟨gb311, 5, none⟩ = some (.slice A0_5 l0_5.length c0_5) := (blk_cell BK311.out 5).trans rfl; have hfz13_0 := blk_frozen BK311.out 0; have hfz13_1 := blk_frozen BK311.out 1; have hfz13_2 := blk_frozen BK311.out 2; have hfz13_3 := blk_frozen BK311.out 3; have hfz13_4 := blk_frozen BK311.out 4; have hfz13_5 := blk_frozen BK311.out 5) | ((with_reducible refine gate_callee (f := 10) rfl ?_); refine goesL_ (some 18) rfl rfl Try.func10 (by kernel_rfl) rfl #[.agg #[.int .i64 a0_0, .int .i64 a0_1, .int .i64 a0_2, .bool a0_3, .int .i64 a0_4, .slice A0_5 l0_5.length c0_5], .int .i64 a1] rfl (by (try simp only [List.map_toArray, List.map_cons, List.map_nil]); first | done | rfl | (simp only [List.length_drop, List.length_take]; rfl)) ?_; (with_reducible refine (inode_Encode.calls a0_0 a0_1 a0_2 a0_3 a0_4 _ _ l0_5 a1 t313 t316 _ ?side1 ?side2 A6.out).mono ?_); (case side1 => repeat (first | exact (Kd.C_below HR0_5.out HB.out) | (with_reducible refine Kd.C_alloc ?_ _) | (with_reducible refine Kd.C_drewN ?_ _) | (with_reducible refine Kd.C_drew ?_))); (case side2 => exact HC0_5.out); rintro e w14 ⟨v314, rfl, ho0, hb⟩; refine ⟨_, rfl, ?_⟩; have n0_ := Aside0.mk (Kd.R_lower ho0 (below_size (by repeat (first | (with_reducible first | exact HB.out | apply below_alloc | apply pw_below_drewN | apply below_drew1 | refine below_set ?_ GE311.out) | exact HB.out)))); have n1_ := Aside0.mk (blk_below (g := gb311) (o := .cells #[.int .i64 a0_0, .int .i64 a0_1, .int .i64 a0_2, .bool a0_3, .int .i64 a0_4, .slice A0_5 l0_5.length c0_5] 24 (0, 0)) (by (with_reducible repeat (first | refine blk_drewN ?_ _ | refine blk_drew ?_ | refine blk_alloc ?_ _)); exact BK311.out) hb); have n2_ := Aside0.mk (below_step (by repeat (first | (with_reducible first | exact HB.out | apply below_alloc | apply pw_below_drewN | apply below_drew1 | refine below_set ?_ GE311.out) | exact HB.out)) hb); clear BK311; clear HB; have HO315 := n0_; have BK311 := n1_; have HB := n2_; clear n0_ n1_ n2_; (try clear hb); (try clear hb2); (try clear hk); (try clear hi); (try clear ho0); obtain ⟨Ao15, co15, eo15⟩ := Kd.R_slice HO315.out; subst eo15) | ((with_reducible refine gate_callee (f := 15) rfl ?_); refine goesL_ (some 29) rfl rfl Try.func15 (by kernel_rfl) rfl #[.slice Ao15 t313.length co15, .int .i64 a1] rfl (by (try simp only [List.map_toArray, List.map_cons, List.map_nil]); first | done | rfl | (simp only [List.length_drop, List.length_take]; rfl)) ?_; (with_reducible refine (inode_Decode.calls k _ _ t313 a1 t317 t318 t319 t320 t321 t322 t325 _ ?side1 ?side2 A8.out).mono ?_); (case side1 => repeat (first | exact (Kd.R_reads' HO315.out).2.2 | (with_reducible refine Kd.C_alloc ?_ _) | (with_reducible refine Kd.C_drewN ?_ _) | (with_reducible refine Kd.C_drew ?_))); (case side2 => exact (Kd.R_reads' HO315.out).2.1); rintro e w16 ⟨v323, rfl, ho0, hb⟩; refine ⟨_, rfl, ?_⟩; have n0_ := Aside0.mk (Kd.R_elder' (by (with_reducible repeat (first | apply Kd.R_alloc | apply Kd.R_drewN | apply Kd.R_drew)); exact HO315.out) (Kd.R_base ho0) hb); have n1_ := Aside0.mk (Kd.R_lower (Kd.R_new' ho0 (Kd.R_lt (by (with_reducible repeat (first | apply Kd.R_alloc | apply Kd.R_drewN | apply Kd.R_drew)); exact HO315.out))) (below_size (by repeat (first | (with_reducible first | exact HB.out | apply below_alloc | apply pw_below_drewN | apply below_drew1 | refine below_set ?_ GE311.out) | exact HB.out)))); have n2_ := Aside0.mk (blk_below (g := gb311) (o := .cells #[.int .i64 a0_0, .int .i64 a0_1, .int .i64 a0_2, .bool a0_3, .int .i64 a0_4, .slice A0_5 l0_5.length c0_5] 24 (0, 0)) (by (with_reducible repeat (first | refine blk_drewN ?_ _ | refine blk_drew ?_ | refine blk_alloc ?_ _)); exact BK311.out) hb); have n3_ := Aside0.mk (below_step (by repeat (first | (with_reducible first | exact HB.out | apply below_alloc | apply pw_below_drewN | apply below_drew1 | refine below_set ?_ GE311.out) | exact HB.out)) hb); clear HO315; clear BK311; clear HB; have HO315 := n0_; have HO324 := n1_; have BK311 := n2_; have HB := n3_; clear n0_ n1_ n2_ n3_; (try clear hb); (try clear hb2); (try clear hk); (try clear hi); (try clear ho0)) | ((with_reducible refine gate_dst (N := 9) rfl ?_); (try (refine gate_guard (by rfl) ?_; dsimp only)); refine box_event ?hg (N := 9) ?hd (cs := #[.int .i64 0, .int .i64 0, .int .i64 0, .bool false, .int .i64 0, .slice none 0 0]) (t := 24) ?hr ?_; (case hd => rfl); (case hg => rfl); (case hr => first | (go_simp; done) | (go_simp; rfl)); intro gb326 hg w17 hbox hb; have n0_ := Aside0.mk (Kd.R_below (by (with_reducible repeat (first | apply Kd.R_alloc | apply Kd.R_drewN | apply Kd.R_drew)); exact HO315.out) hb); have n1_ := Aside0.mk (Kd.R_below (by (with_reducible repeat (first | apply Kd.R_alloc | apply Kd.R_drewN | apply Kd.R_drew)); exact HO324.out) hb); have n2_ := Aside0.mk (blk_below (g := gb311) (o := .cells #[.int .i64 a0_0, .int .i64 a0_1, .int .i64 a0_2, .bool a0_3, .int .i64 a0_4, .slice A0_5 l0_5.length c0_5] 24 (0, 0)) (by (with_reducible repeat (first | refine blk_drewN ?_ _ | refine blk_drew ?_ | refine blk_alloc ?_ _)); exact BK311.out) hb); have n3_ := Aside0.mk (below_step (by repeat (first | (with_reducible first | exact HB.out | apply below_alloc | apply pw_below_drewN | apply below_drew1 | refine below_set ?_ GE311.out) | exact HB.out)) hb); have n4_ := Aside0.mk (hbox); have n5_ := Aside0.mk ((by rw [hg]; exact (below_size (by repeat (first | (with_reducible first | exact HB.out | apply below_alloc | apply pw_below_drewN | apply below_drew1 | refine below_set ?_ GE311.out) | exact HB.out))) : w.heap.size ≤ gb326)); have n6_ := Aside0.mk ((by rw [hg]; exact (below_size (by repeat (first | (with_reducible first | exact HB.out | apply below_alloc | apply pw_below_drewN | apply below_drew1 | refine below_set ?_ GE311.out) | exact HB.out))) : w.heap.size ≤ gb326)); have n7_ := Aside0.mk ((by rw [hg]; exact Nat.ne_of_lt (blk_lt (g := gb311) (o := .cells #[.int .i64 a0_0, .int .i64 a0_1, .int .i64 a0_2, .bool a0_3, .int .i64 a0_4, .slice A0_5 l0_5.length c0_5] 24 (0, 0)) (by (with_reducible repeat (first | refine blk_drewN ?_ _ | refine blk_drew ?_ | refine blk_alloc ?_ _)); exact BK311.out)) : gb311 ≠ gb326)); have n8_ := Aside0.mk ((by rw [hg]; exact Nat.ne_of_gt (blk_lt (g := gb311) (o := .cells #[.int .i64 a0_0, .int .i64 a0_1, .int .i64 a0_2, .bool a0_3, .int .i64 a0_4, .slice A0_5 l0_5.length c0_5] 24 (0, 0)) (by (with_reducible repeat (first | refine blk_drewN ?_ _ | refine blk_drew ?_ | refine blk_alloc ?_ _)); exact BK311.out)) : gb326 ≠ gb311)); clear HO315; clear HO324; clear BK311; clear HB; have HO315 := n0_; have HO324 := n1_; have BK311 := n2_; have HB := n3_; have BK326 := n4_; have GW326 := n5_; have GE326 := n6_; have NB311_326 := n7_; have NB326_311 := n8_; clear n0_ n1_ n2_ n3_ n4_ n5_ n6_ n7_ n8_; clear hb hbox hg; have hnb18 := NB326_311.out; have hnc18 := NB311_326.out; have hcz19_0 : w17.cell? ⟨gb326, 0, none⟩ = some (.int .i64 0) := (blk_cell BK326.out 0).trans rfl; have hcz19_1 : w17.cell? ⟨gb326, 1, none⟩ = some (.int .i64 0) := (blk_cell BK326.out 1).trans rfl; have hcz19_2 : w17.cell? ⟨gb326, 2, none⟩ = some (.int .i64 0) := (blk_cell BK326.out 2).trans rfl; have hcz19_3 : w17.cell? ⟨gb326, 3, none⟩ = some (.bool false) := (blk_cell BK326.out 3).trans rfl; have hcz19_4 : w17.cell? ⟨gb326, 4, none⟩ = some (.int .i64 0) := (blk_cell BK326.out 4).trans rfl; have hcz19_5 : w17.cell? ⟨gb326, 5, none⟩ = some (.slice none 0 0) := (blk_cell BK326.out 5).trans rfl; have hfz19_0 := blk_frozen BK326.out 0; have hfz19_1 := blk_frozen BK326.out 1; have hfz19_2 := blk_frozen BK326.out 2; have hfz19_3 := blk_frozen BK326.out 3; have hfz19_4 := blk_frozen BK326.out 4; have hfz19_5 := blk_frozen BK326.out 5; obtain ⟨Ao20, co20, eo20⟩ := Kd.R_slice HO324.out; subst eo20) | ((with_reducible refine gate_callee (f := 15) rfl ?_); refine goesL_ (some 35) rfl rfl Try.func15 (by kernel_rfl) rfl #[.slice Ao15 t313.length co15, .int .i64 a2] rfl (by (try simp only [List.map_toArray, List.map_cons, List.map_nil]); first | done | rfl | (simp only [List.length_drop, List.length_take]; rfl)) ?_; (with_reducible refine (inode_Decode.calls k _ _ t313 a2 t327 t328 t329 t330 t331 t332 t335 _ ?side1 ?side2 A9.out).mono ?_); (case side1 => refine (Kd.R_reads' (e := 5) (base := w.heap.size) (ok := fun k_ => (True ∧ some k_ ≠ (.slice Ao20 t322.length co20 : Value).ownBlock)) (n := t313.length) (c := co15) ?_).2.2; exact (by (with_reducible repeat (first | apply Kd.R_alloc | apply Kd.R_drewN | apply Kd.R_drew)); exact (Kd.R_mono (Kd.R_far (p := ⟨gb326, 5, none⟩) (Kd.R_far (p := ⟨gb326, 4, none⟩) (Kd.R_far (p := ⟨gb326, 3, none⟩) (Kd.R_far (p := ⟨gb326, 2, none⟩) (Kd.R_far (p := ⟨gb326, 1, none⟩) (Kd.R_far (p := ⟨gb326, 0, none⟩) (Kd.R_types HO315.out BK326.out (by decide)) (fun _ hk => hk.2) (.int .i64 t317)) (fun _ hk => hk.2) (.int .i64 t318)) (fun _ hk => hk.2) (.int .i64 t319)) (fun _ hk => hk.2) (.bool t320)) (fun _ hk => hk.2) (.int .i64 t321)) (fun _ hk => hk.2) (.slice Ao20 t322.length co20)) (fun _ h_ => h_.1)))); (case side2 => exact (Kd.R_reads' HO315.out).2.1); rintro e w21 ⟨v333, rfl, ho0, hb⟩; refine ⟨_, rfl, ?_⟩; have n0_ := Aside0.mk (Kd.R_elder' (by (with_reducible repeat (first | apply Kd.R_alloc | apply Kd.R_drewN | apply Kd.R_drew)); exact (Kd.R_mono (Kd.R_far (p := ⟨gb326, 5, none⟩) (Kd.R_far (p := ⟨gb326, 4, none⟩) (Kd.R_far (p := ⟨gb326, 3, none⟩) (Kd.R_far (p := ⟨gb326, 2, none⟩) (Kd.R_far (p := ⟨gb326, 1, none⟩) (Kd.R_far (p := ⟨gb326, 0, none⟩) (Kd.R_types HO315.out BK326.out (by decide)) (fun _ hk => hk.2) (.int .i64 t317)) (fun _ hk => hk.2) (.int .i64 t318)) (fun _ hk => hk.2) (.int .i64 t319)) (fun _ hk => hk.2) (.bool t320)) (fun _ hk => hk.2) (.int .i64 t321)) (fun _ hk => hk.2) (.slice Ao20 t322.length co20)) (fun _ h_ => h_.1))) (Kd.R_base ho0) hb); have n1_ := Aside0.mk (Kd.R_elder' (by (with_reducible repeat (first | apply Kd.R_alloc | apply Kd.R_drewN | apply Kd.R_drew)); exact (Kd.R_mono (Kd.R_far (p := ⟨gb326, 5, none⟩) (Kd.R_far (p := ⟨gb326, 4, none⟩) (Kd.R_far (p := ⟨gb326, 3, none⟩) (Kd.R_far (p := ⟨gb326, 2, none⟩) (Kd.R_far (p := ⟨gb326, 1, none⟩) (Kd.R_far (p := ⟨gb326, 0, none⟩) (Kd.R_types HO324.out BK326.out (by decide)) (fun _ hk => hk.2) (.int .i64 t317)) (fun _ hk => hk.2) (.int .i64 t318)) (fun _ hk => hk.2) (.int .i64 t319)) (fun _ hk => hk.2) (.bool t320)) (fun _ hk => hk.2) (.int .i64 t321)) (fun _ hk => hk.2) (.slice Ao20 t322.length co20)) (fun _ h_ => h_.1))) (Kd.R_base ho0) hb); have n2_ := Aside0.mk (Kd.R_lower (Kd.R_new' (Kd.R_new' ho0 (Kd.R_lt (by (with_reducible repeat (first | apply Kd.R_alloc | apply Kd.R_drewN | apply Kd.R_drew)); exact (Kd.R_mono (Kd.R_far (p := ⟨gb326, 5, none⟩) (Kd.R_far (p := ⟨gb326, 4, none⟩) (Kd.R_far (p := ⟨gb326, 3, none⟩) (Kd.R_far (p := ⟨gb326, 2, none⟩) (Kd.R_far (p := ⟨gb326, 1, none⟩) (Kd.R_far (p := ⟨gb326, 0, none⟩) (Kd.R_types HO315.out BK326.out (by decide)) (fun _ hk => hk.2) (.int .i64 t317)) (fun _ hk => hk.2) (.int .i64 t318)) (fun _ hk => hk.2) (.int .i64 t319)) (fun _ hk => hk.2) (.bool t320)) (fun _ hk => hk.2) (.int .i64 t321)) (fun _ hk => hk.2) (.slice Ao20 t322.length co20)) (fun _ h_ => h_.1))))) (Kd.R_lt (by (with_reducible repeat (first | apply Kd.R_alloc | apply Kd.R_drewN | apply Kd.R_drew)); exact (Kd.R_mono (Kd.R_far (p := ⟨gb326, 5, none⟩) (Kd.R_far (p := ⟨gb326, 4, none⟩) (Kd.R_far (p := ⟨gb326, 3, none⟩) (Kd.R_far (p := ⟨gb326, 2, none⟩) (Kd.R_far (p := ⟨gb326, 1, none⟩) (Kd.R_far (p := ⟨gb326, 0, none⟩) (Kd.R_types HO324.out BK326.out (by decide)) (fun _ hk => hk.2) (.int .i64 t317)) (fun _ hk => hk.2) (.int .i64 t318)) (fun _ hk => hk.2) (.int .i64 t319)) (fun _ hk => hk.2) (.bool t320)) (fun _ hk => hk.2) (.int .i64 t321)) (fun _ hk => hk.2) (.slice Ao20 t322.length co20)) (fun _ h_ => h_.1))))) (below_size (by repeat (first | (with_reducible first | exact HB.out | apply below_alloc | apply pw_below_drewN | apply below_drew1 | refine below_set ?_ GE311.out | refine below_set ?_ GE326.out) | exact HB.out)))); have n3_ := Aside0.mk (blk_below (g := gb311) (o := .cells #[.int .i64 a0_0, .int .i64 a0_1, .int .i64 a0_2, .bool a0_3, .int .i64 a0_4, .slice A0_5 l0_5.length c0_5] 24 (0, 0)) (by (with_reducible repeat (first | refine blk_drewN ?_ _ | refine blk_drew ?_ | refine blk_alloc ?_ _)); refine blk_far ?_ NB311_326.out _; (with_reducible repeat (first | refine blk_drewN ?_ _ | refine blk_drew ?_ | refine blk_alloc ?_ _)); refine blk_far ?_ NB311_326.out _; (with_reducible repeat (first | refine blk_drewN ?_ _ | refine blk_drew ?_ | refine blk_alloc ?_ _)); refine blk_far ?_ NB311_326.out _; (with_reducible repeat (first | refine blk_drewN ?_ _ | refine blk_drew ?_ | refine blk_alloc ?_ _)); refine blk_far ?_ NB311_326.out _; (with_reducible repeat (first | refine blk_drewN ?_ _ | refine blk_drew ?_ | refine blk_alloc ?_ _)); refine blk_far ?_ NB311_326.out _; (with_reducible repeat (first | refine blk_drewN ?_ _ | refine blk_drew ?_ | refine blk_alloc ?_ _)); refine blk_far ?_ NB311_326.out _; (with_reducible repeat (first | refine blk_drewN ?_ _ | refine blk_drew ?_ | refine blk_alloc ?_ _)); exact BK311.out) hb); have n4_ := Aside0.mk (blk_below (g := gb326) (o := .cells #[.int .i64 t317, .int .i64 t318, .int .i64 t319, .bool t320, .int .i64 t321, .slice Ao20 t322.length co20] 24 (0, 0)) (by (with_reducible repeat (first | refine blk_drewN ?_ _ | refine blk_drew ?_ | refine blk_alloc ?_ _)); refine blk_put (cs := #[.int .i64 t317, .int .i64 t318, .int .i64 t319, .bool t320, .int .i64 t321, .slice none 0 0]) ?_ 5 _ rfl; (with_reducible repeat (first | refine blk_drewN ?_ _ | refine blk_drew ?_ | refine blk_alloc ?_ _)); refine blk_put (cs := #[.int .i64 t317, .int .i64 t318, .int .i64 t319, .bool t320, .int .i64 0, .slice none 0 0]) ?_ 4 _ rfl; (with_reducible repeat (first | refine blk_drewN ?_ _ | refine blk_drew ?_ | refine blk_alloc ?_ _)); refine blk_put (cs := #[.int .i64 t317, .int .i64 t318, .int .i64 t319, .bool false, .int .i64 0, .slice none 0 0]) ?_ 3 _ rfl; (with_reducible repeat (first | refine blk_drewN ?_ _ | refine blk_drew ?_ | refine blk_alloc ?_ _)); refine blk_put (cs := #[.int .i64 t317, .int .i64 t318, .int .i64 0, .bool false, .int .i64 0, .slice none 0 0]) ?_ 2 _ rfl; (with_reducible repeat (first | refine blk_drewN ?_ _ | refine blk_drew ?_ | refine blk_alloc ?_ _)); refine blk_put (cs := #[.int .i64 t317, .int .i64 0, .int .i64 0, .bool false, .int .i64 0, .slice none 0 0]) ?_ 1 _ rfl; (with_reducible repeat (first | refine blk_drewN ?_ _ | refine blk_drew ?_ | refine blk_alloc ?_ _)); refine blk_put (cs := #[.int .i64 0, .int .i64 0, .int .i64 0, .bool false, .int .i64 0, .slice none 0 0]) ?_ 0 _ rfl; (with_reducible repeat (first | refine blk_drewN ?_ _ | refine blk_drew ?_ | refine blk_alloc ?_ _)); exact BK326.out) hb); have n5_ := Aside0.mk (below_step (by repeat (first | (with_reducible first | exact HB.out | apply below_alloc | apply pw_below_drewN | apply below_drew1 | refine below_set ?_ GE311.out | refine below_set ?_ GE326.out) | exact HB.out)) hb); clear HO315; clear HO324; clear BK311; clear BK326; clear HB; have HO315 := n0_; have HO324 := n1_; have HO334 := n2_; have BK311 := n3_; have BK326 := n4_; have HB := n5_; clear n0_ n1_ n2_ n3_ n4_ n5_; (try clear hb); (try clear hb2); (try clear hk); (try clear hi); (try clear ho0)) | ((with_reducible refine gate_dst (N := 11) rfl ?_); (try (refine gate_guard (by rfl) ?_; dsimp only)); refine box_event ?hg (N := 11) ?hd (cs := #[.int .i64 0, .int .i64 0, .int .i64 0, .bool false, .int .i64 0, .slice none 0 0]) (t := 24) ?hr ?_; (case hd => rfl); (case hg => rfl); (case hr => first | (go_simp; done) | (go_simp; rfl)); intro gb336 hg w22 hbox hb; have n0_ := Aside0.mk (Kd.R_below (by (with_reducible repeat (first | apply Kd.R_alloc | apply Kd.R_drewN | apply Kd.R_drew)); exact HO315.out) hb); have n1_ := Aside0.mk (Kd.R_below (by (with_reducible repeat (first | apply Kd.R_alloc | apply Kd.R_drewN | apply Kd.R_drew)); exact HO324.out) hb); have n2_ := Aside0.mk (Kd.R_below (by (with_reducible repeat (first | apply Kd.R_alloc | apply Kd.R_drewN | apply Kd.R_drew)); exact HO334.out) hb); have n3_ := Aside0.mk (blk_below (g := gb311) (o := .cells #[.int .i64 a0_0, .int .i64 a0_1, .int .i64 a0_2, .bool a0_3, .int .i64 a0_4, .slice A0_5 l0_5.length c0_5] 24 (0, 0)) (by (with_reducible repeat (first | refine blk_drewN ?_ _ | refine blk_drew ?_ | refine blk_alloc ?_ _)); exact BK311.out) hb); have n4_ := Aside0.mk (blk_below (g := gb326) (o := .cells #[.int .i64 t317, .int .i64 t318, .int .i64 t319, .bool t320, .int .i64 t321, .slice Ao20 t322.length co20] 24 (0, 0)) (by (with_reducible repeat (first | refine blk_drewN ?_ _ | refine blk_drew ?_ | refine blk_alloc ?_ _)); exact BK326.out) hb); have n5_ := Aside0.mk (below_step (by repeat (first | (with_reducible first | exact HB.out | apply below_alloc | apply pw_below_drewN | apply below_drew1 | refine below_set ?_ GE311.out | refine below_set ?_ GE326.out) | exact HB.out)) hb); have n6_ := Aside0.mk (hbox); have n7_ := Aside0.mk ((by rw [hg]; exact (below_size (by repeat (first | (with_reducible first | exact HB.out | apply below_alloc | apply pw_below_drewN | apply below_drew1 | refine below_set ?_ GE311.out | refine below_set ?_ GE326.out) | exact HB.out))) : w.heap.size ≤ gb336)); have n8_ := Aside0.mk ((by rw [hg]; exact (below_size (by repeat (first | (with_reducible first | exact HB.out | apply below_alloc | apply pw_below_drewN | apply below_drew1 | refine below_set ?_ GE311.out | refine below_set ?_ GE326.out) | exact HB.out))) : w.heap.size ≤ gb336)); have n9_ := Aside0.mk ((by rw [hg]; exact Nat.ne_of_lt (blk_lt (g := gb311) (o := .cells #[.int .i64 a0_0, .int .i64 a0_1, .int .i64 a0_2, .bool a0_3, .int .i64 a0_4, .slice A0_5 l0_5.length c0_5] 24 (0, 0)) (by (with_reducible repeat (first | refine blk_drewN ?_ _ | refine blk_drew ?_ | refine blk_alloc ?_ _)); exact BK311.out)) : gb311 ≠ gb336)); have n10_ := Aside0.mk ((by rw [hg]; exact Nat.ne_of_gt (blk_lt (g := gb311) (o := .cells #[.int .i64 a0_0, .int .i64 a0_1, .int .i64 a0_2, .bool a0_3, .int .i64 a0_4, .slice A0_5 l0_5.length c0_5] 24 (0, 0)) (by (with_reducible repeat (first | refine blk_drewN ?_ _ | refine blk_drew ?_ | refine blk_alloc ?_ _)); exact BK311.out)) : gb336 ≠ gb311)); have n11_ := Aside0.mk ((by rw [hg]; exact Nat.ne_of_lt (blk_lt (g := gb326) (o := .cells #[.int .i64 t317, .int .i64 t318, .int .i64 t319, .bool t320, .int .i64 t321, .slice Ao20 t322.length co20] 24 (0, 0)) (by (with_reducible repeat (first | refine blk_drewN ?_ _ | refine blk_drew ?_ | refine blk_alloc ?_ _)); exact BK326.out)) : gb326 ≠ gb336)); have n12_ := Aside0.mk ((by rw [hg]; exact Nat.ne_of_gt (blk_lt (g := gb326) (o := .cells #[.int .i64 t317, .int .i64 t318, .int .i64 t319, .bool t320, .int .i64 t321, .slice Ao20 t322.length co20] 24 (0, 0)) (by (with_reducible repeat (first | refine blk_drewN ?_ _ | refine blk_drew ?_ | refine blk_alloc ?_ _)); exact BK326.out)) : gb336 ≠ gb326)); clear HO315; clear HO324; clear HO334; clear BK311; clear BK326; clear HB; have HO315 := n0_; have HO324 := n1_; have HO334 := n2_; have BK311 := n3_; have BK326 := n4_; have HB := n5_; have BK336 := n6_; have GW336 := n7_; have GE336 := n8_; have NB311_336 := n9_; have NB336_311 := n10_; have NB326_336 := n11_; have NB336_326 := n12_; clear n0_ n1_ n2_ n3_ n4_ n5_ n6_ n7_ n8_ n9_ n10_ n11_ n12_; clear hb hbox hg; have hnb23 := NB336_311.out; have hnc23 := NB311_336.out; have hnb24 := NB336_326.out; have hnc24 := NB326_336.out; have hcz25_0 : w22.cell? ⟨gb336, 0, none⟩ = some (.int .i64 0) := (blk_cell BK336.out 0).trans rfl; have hcz25_1 : w22.cell? ⟨gb336, 1, none⟩ = some (.int .i64 0) := (blk_cell BK336.out 1).trans rfl; have hcz25_2 : w22.cell? ⟨gb336, 2, none⟩ = some (.int .i64 0) := (blk_cell BK336.out 2).trans rfl; have hcz25_3 : w22.cell? ⟨gb336, 3, none⟩ = some (.bool false) := (blk_cell BK336.out 3).trans rfl; have hcz25_4 : w22.cell? ⟨gb336, 4, none⟩ = some (.int .i64 0) := (blk_cell BK336.out 4).trans rfl; have hcz25_5 : w22.cell? ⟨gb336, 5, none⟩ = some (.slice none 0 0) := (blk_cell BK336.out 5).trans rfl; have hfz25_0 := blk_frozen BK336.out 0; have hfz25_1 := blk_frozen BK336.out 1; have hfz25_2 := blk_frozen BK336.out 2; have hfz25_3 := blk_frozen BK336.out 3; have hfz25_4 := blk_frozen BK336.out 4; have hfz25_5 := blk_frozen BK336.out 5; obtain ⟨Ao26, co26, eo26⟩ := Kd.R_slice HO334.out; subst eo26))
    (try simp only [Act.put, List.setIfInBounds_toArray, List.set_cons_zero, List.set_cons_succ])
    go_cut [50] (fun v50 wc => ∃ (kq : Nat) (x50_9 : Bool), v50 = .bool x50_9 ∧ Aside0 (undercroftlaw09_InodeBack.j0 kq a1 a2 t335 x50_9 a0_0 a0_1 a0_2 a0_3 a0_4 l0_5 t327 t328 t329 t330 t331 t332 = some r) ∧ Aside0 (kq ≤ k) ∧ Aside0 (Kd.R (Kd.int .u8) 5 wc w.heap.size (fun k_ => some k_ ≠ ((.slice Ao26 t332.length co26) : Value).ownBlock) (.slice Ao20 t322.length co20) t322) ∧ Aside0 (Kd.R (Kd.int .u8) 5 wc w.heap.size (fun k_ => some k_ ≠ ((.slice Ao20 t322.length co20) : Value).ownBlock) (.slice Ao26 t332.length co26) t332) ∧ Aside0 (wc.heap[gb311]? = some (.cells #[.int .i64 a0_0, .int .i64 a0_1, .int .i64 a0_2, .bool a0_3, .int .i64 a0_4, (.slice A0_5 l0_5.length c0_5)] 24 (0, 0))) ∧ Aside0 (wc.heap[gb326]? = some (.cells #[.int .i64 t317, .int .i64 t318, .int .i64 t319, .bool t320, .int .i64 t321, (.slice Ao20 t322.length co20)] 24 (0, 0))) ∧ Aside0 (wc.heap[gb336]? = some (.cells #[.int .i64 t327, .int .i64 t328, .int .i64 t329, .bool t330, .int .i64 t331, (.slice Ao26 t332.length co26)] 24 (0, 0))) ∧ Aside0 (Below w.heap.size w wc))
    case first =>
      have H := HC10.out
      clear HC10
      by_cases c27 : t325 = 0
      rotate_left
      · rw [if_neg c27] at H
        have c27b0 : (t325 == 0) = false := beq_eq_false_iff_ne.mpr c27
        have c27b1 : (t325 != 0) = true := bne_iff_ne.mpr c27
        (first | rw [c27b0] | (simp only [i64_w, i32_w]; rw [c27b0]) | skip)
        have H' := Aside0.mk H
        clear H
        go_wp2
        go_meet
        case rel => exact ⟨_, (true), (by first | rfl | (simp; done) | (simp [*]; done)), H', ⟨by first | omega | exact Nat.le_refl _⟩, ⟨by (with_reducible repeat (first | apply Kd.R_alloc | apply Kd.R_drewN | apply Kd.R_drew)); exact Kd.R_mono (Kd.R_far (p := ⟨gb336, 5, none⟩) (Kd.R_far (p := ⟨gb336, 4, none⟩) (Kd.R_far (p := ⟨gb336, 3, none⟩) (Kd.R_far (p := ⟨gb336, 2, none⟩) (Kd.R_far (p := ⟨gb336, 1, none⟩) (Kd.R_far (p := ⟨gb336, 0, none⟩) (Kd.R_types HO324.out BK336.out (by decide)) (fun _ hk => hk.2) (.int .i64 t327)) (fun _ hk => hk.2) (.int .i64 t328)) (fun _ hk => hk.2) (.int .i64 t329)) (fun _ hk => hk.2) (.bool t330)) (fun _ hk => hk.2) (.int .i64 t331)) (fun _ hk => hk.2) (.slice Ao26 t332.length co26)) (fun _ hk => hk.1.2)⟩, ⟨by (with_reducible repeat (first | apply Kd.R_alloc | apply Kd.R_drewN | apply Kd.R_drew)); exact Kd.R_mono (Kd.R_far (p := ⟨gb336, 5, none⟩) (Kd.R_far (p := ⟨gb336, 4, none⟩) (Kd.R_far (p := ⟨gb336, 3, none⟩) (Kd.R_far (p := ⟨gb336, 2, none⟩) (Kd.R_far (p := ⟨gb336, 1, none⟩) (Kd.R_far (p := ⟨gb336, 0, none⟩) (Kd.R_types HO334.out BK336.out (by decide)) (fun _ hk => hk.2) (.int .i64 t327)) (fun _ hk => hk.2) (.int .i64 t328)) (fun _ hk => hk.2) (.int .i64 t329)) (fun _ hk => hk.2) (.bool t330)) (fun _ hk => hk.2) (.int .i64 t331)) (fun _ hk => hk.2) (.slice Ao26 t332.length co26)) (fun _ hk => hk.1.2)⟩, ⟨by (with_reducible repeat (first | refine blk_drewN ?_ _ | refine blk_drew ?_ | refine blk_alloc ?_ _)); refine blk_far ?_ NB311_336.out _; (with_reducible repeat (first | refine blk_drewN ?_ _ | refine blk_drew ?_ | refine blk_alloc ?_ _)); refine blk_far ?_ NB311_336.out _; (with_reducible repeat (first | refine blk_drewN ?_ _ | refine blk_drew ?_ | refine blk_alloc ?_ _)); refine blk_far ?_ NB311_336.out _; (with_reducible repeat (first | refine blk_drewN ?_ _ | refine blk_drew ?_ | refine blk_alloc ?_ _)); refine blk_far ?_ NB311_336.out _; (with_reducible repeat (first | refine blk_drewN ?_ _ | refine blk_drew ?_ | refine blk_alloc ?_ _)); refine blk_far ?_ NB311_336.out _; (with_reducible repeat (first | refine blk_drewN ?_ _ | refine blk_drew ?_ | refine blk_alloc ?_ _)); refine blk_far ?_ NB311_336.out _; (with_reducible repeat (first | refine blk_drewN ?_ _ | refine blk_drew ?_ | refine blk_alloc ?_ _)); exact BK311.out⟩, ⟨by (with_reducible repeat (first | refine blk_drewN ?_ _ | refine blk_drew ?_ | refine blk_alloc ?_ _)); refine blk_far ?_ NB326_336.out _; (with_reducible repeat (first | refine blk_drewN ?_ _ | refine blk_drew ?_ | refine blk_alloc ?_ _)); refine blk_far ?_ NB326_336.out _; (with_reducible repeat (first | refine blk_drewN ?_ _ | refine blk_drew ?_ | refine blk_alloc ?_ _)); refine blk_far ?_ NB326_336.out _; (with_reducible repeat (first | refine blk_drewN ?_ _ | refine blk_drew ?_ | refine blk_alloc ?_ _)); refine blk_far ?_ NB326_336.out _; (with_reducible repeat (first | refine blk_drewN ?_ _ | refine blk_drew ?_ | refine blk_alloc ?_ _)); refine blk_far ?_ NB326_336.out _; (with_reducible repeat (first | refine blk_drewN ?_ _ | refine blk_drew ?_ | refine blk_alloc ?_ _)); refine blk_far ?_ NB326_336.out _; (with_reducible repeat (first | refine blk_drewN ?_ _ | refine blk_drew ?_ | refine blk_alloc ?_ _)); exact BK326.out⟩, ⟨by (with_reducible repeat (first | refine blk_drewN ?_ _ | refine blk_drew ?_ | refine blk_alloc ?_ _)); refine blk_put (cs := #[.int .i64 t327, .int .i64 t328, .int .i64 t329, .bool t330, .int .i64 t331, .slice none 0 0]) ?_ 5 _ rfl; (with_reducible repeat (first | refine blk_drewN ?_ _ | refine blk_drew ?_ | refine blk_alloc ?_ _)); refine blk_put (cs := #[.int .i64 t327, .int .i64 t328, .int .i64 t329, .bool t330, .int .i64 0, .slice none 0 0]) ?_ 4 _ rfl; (with_reducible repeat (first | refine blk_drewN ?_ _ | refine blk_drew ?_ | refine blk_alloc ?_ _)); refine blk_put (cs := #[.int .i64 t327, .int .i64 t328, .int .i64 t329, .bool false, .int .i64 0, .slice none 0 0]) ?_ 3 _ rfl; (with_reducible repeat (first | refine blk_drewN ?_ _ | refine blk_drew ?_ | refine blk_alloc ?_ _)); refine blk_put (cs := #[.int .i64 t327, .int .i64 t328, .int .i64 0, .bool false, .int .i64 0, .slice none 0 0]) ?_ 2 _ rfl; (with_reducible repeat (first | refine blk_drewN ?_ _ | refine blk_drew ?_ | refine blk_alloc ?_ _)); refine blk_put (cs := #[.int .i64 t327, .int .i64 0, .int .i64 0, .bool false, .int .i64 0, .slice none 0 0]) ?_ 1 _ rfl; (with_reducible repeat (first | refine blk_drewN ?_ _ | refine blk_drew ?_ | refine blk_alloc ?_ _)); refine blk_put (cs := #[.int .i64 0, .int .i64 0, .int .i64 0, .bool false, .int .i64 0, .slice none 0 0]) ?_ 0 _ rfl; (with_reducible repeat (first | refine blk_drewN ?_ _ | refine blk_drew ?_ | refine blk_alloc ?_ _)); exact BK336.out⟩, ⟨by repeat (first | (with_reducible first | exact HB.out | apply below_alloc | apply pw_below_drewN | apply below_drew1 | refine below_set ?_ GE311.out | refine below_set ?_ GE326.out | refine below_set ?_ GE336.out) | exact HB.out)⟩⟩
      rw [if_pos c27] at H
      have c27b0 : (t325 == 0) = true := beq_iff_eq.mpr c27
      have c27b1 : (t325 != 0) = false := bne_eq_false_iff_eq.mpr c27
      clear c27
      (first | rw [c27b0] | (simp only [i64_w, i32_w]; rw [c27b0]) | skip)
      replace H := Option.bind_eq_some_iff.mp H
      obtain ⟨t337, A280, H⟩ := H
      replace H : (if t337 = true then (undercroftlaw09_InodeBack.j0 k a1 a2 t335 ((t313.length : Int) != 128) a0_0 a0_1 a0_2 a0_3 a0_4 l0_5 t327 t328 t329 t330 t331 t332) else (undercroftlaw09_InodeBack.j0 k a1 a2 t335 true a0_0 a0_1 a0_2 a0_3 a0_4 l0_5 t327 t328 t329 t330 t331 t332)) = some r := H
      have A28 := Aside0.mk A280
      clear A280
      by_cases c29 : t337 = true
      · subst c29
        have H1 : (undercroftlaw09_InodeBack.j0 k a1 a2 t335 ((t313.length : Int) != 128) a0_0 a0_1 a0_2 a0_3 a0_4 l0_5 t327 t328 t329 t330 t331 t332) = some r := by rw [if_pos rfl] at H; exact H
        clear H
        have H := H1
        clear H1
        have H' := Aside0.mk H
        clear H
        have hnb30 := NB311_326.out
        have hnc30 := NB326_311.out
        have hnb31 := NB311_336.out
        have hnc31 := NB336_311.out
        have hcz32_0 : w22.cell? ⟨gb311, 0, none⟩ = some (.int .i64 a0_0) := (blk_cell BK311.out 0).trans rfl
        have hcz32_1 : w22.cell? ⟨gb311, 1, none⟩ = some (.int .i64 a0_1) := (blk_cell BK311.out 1).trans rfl
        have hcz32_2 : w22.cell? ⟨gb311, 2, none⟩ = some (.int .i64 a0_2) := (blk_cell BK311.out 2).trans rfl
        have hcz32_3 : w22.cell? ⟨gb311, 3, none⟩ = some (.bool a0_3) := (blk_cell BK311.out 3).trans rfl
        have hcz32_4 : w22.cell? ⟨gb311, 4, none⟩ = some (.int .i64 a0_4) := (blk_cell BK311.out 4).trans rfl
        have hcz32_5 : w22.cell? ⟨gb311, 5, none⟩ = some (.slice A0_5 l0_5.length c0_5) := (blk_cell BK311.out 5).trans rfl
        have hfz32_0 := blk_frozen BK311.out 0
        have hfz32_1 := blk_frozen BK311.out 1
        have hfz32_2 := blk_frozen BK311.out 2
        have hfz32_3 := blk_frozen BK311.out 3
        have hfz32_4 := blk_frozen BK311.out 4
        have hfz32_5 := blk_frozen BK311.out 5
        have hnb33 := NB326_336.out
        have hnc33 := NB336_326.out
        have hcz34_0 : w22.cell? ⟨gb326, 0, none⟩ = some (.int .i64 t317) := (blk_cell BK326.out 0).trans rfl
        have hcz34_1 : w22.cell? ⟨gb326, 1, none⟩ = some (.int .i64 t318) := (blk_cell BK326.out 1).trans rfl
        have hcz34_2 : w22.cell? ⟨gb326, 2, none⟩ = some (.int .i64 t319) := (blk_cell BK326.out 2).trans rfl
        have hcz34_3 : w22.cell? ⟨gb326, 3, none⟩ = some (.bool t320) := (blk_cell BK326.out 3).trans rfl
        have hcz34_4 : w22.cell? ⟨gb326, 4, none⟩ = some (.int .i64 t321) := (blk_cell BK326.out 4).trans rfl
        have hcz34_5 : w22.cell? ⟨gb326, 5, none⟩ = some (.slice Ao20 t322.length co20) := (blk_cell BK326.out 5).trans rfl
        have hfz34_0 := blk_frozen BK326.out 0
        have hfz34_1 := blk_frozen BK326.out 1
        have hfz34_2 := blk_frozen BK326.out 2
        have hfz34_3 := blk_frozen BK326.out 3
        have hfz34_4 := blk_frozen BK326.out 4
        have hfz34_5 := blk_frozen BK326.out 5
        go_wp2_with (first | (go_at_call 14; (with_reducible refine (undercroftref09_Same.calls a0_0 a0_1 a0_2 a0_3 a0_4 _ _ l0_5 t317 t318 t319 t320 t321 _ _ t322 true _ ?side1 ?side2 ?side3 ?side4 A28.out).mono ?_); (case side1 => exact Kd.C_below HR0_5.out (by repeat (first | (with_reducible first | exact HB.out | apply below_alloc | apply pw_below_drewN | apply below_drew1 | refine below_set ?_ GE311.out | refine below_set ?_ GE326.out | refine below_set ?_ GE336.out) | exact HB.out))); (case side2 => exact HC0_5.out); (case side3 => refine (Kd.R_reads' (e := 5) (base := w.heap.size) (ok := fun k_ => ((True ∧ some k_ ≠ (.slice Ao15 t313.length co15 : Value).ownBlock) ∧ some k_ ≠ (.slice Ao26 t332.length co26 : Value).ownBlock)) (n := t322.length) (c := co20) ?_).2.2; exact (by (with_reducible repeat (first | apply Kd.R_alloc | apply Kd.R_drewN | apply Kd.R_drew)); exact (Kd.R_mono (Kd.R_far (p := ⟨gb336, 5, none⟩) (Kd.R_far (p := ⟨gb336, 4, none⟩) (Kd.R_far (p := ⟨gb336, 3, none⟩) (Kd.R_far (p := ⟨gb336, 2, none⟩) (Kd.R_far (p := ⟨gb336, 1, none⟩) (Kd.R_far (p := ⟨gb336, 0, none⟩) (Kd.R_types HO324.out BK336.out (by decide)) (fun _ hk => hk.2) (.int .i64 t327)) (fun _ hk => hk.2) (.int .i64 t328)) (fun _ hk => hk.2) (.int .i64 t329)) (fun _ hk => hk.2) (.bool t330)) (fun _ hk => hk.2) (.int .i64 t331)) (fun _ hk => hk.2) (.slice Ao26 t332.length co26)) (fun _ h_ => h_.1)))); (case side4 => exact (Kd.R_reads' HO324.out).2.1); rintro e w35 ⟨rfl, hb⟩; have n0_ := Aside0.mk (Kd.R_below (by (with_reducible repeat (first | apply Kd.R_alloc | apply Kd.R_drewN | apply Kd.R_drew)); exact (Kd.R_mono (Kd.R_far (p := ⟨gb336, 5, none⟩) (Kd.R_far (p := ⟨gb336, 4, none⟩) (Kd.R_far (p := ⟨gb336, 3, none⟩) (Kd.R_far (p := ⟨gb336, 2, none⟩) (Kd.R_far (p := ⟨gb336, 1, none⟩) (Kd.R_far (p := ⟨gb336, 0, none⟩) (Kd.R_types HO315.out BK336.out (by decide)) (fun _ hk => hk.2) (.int .i64 t327)) (fun _ hk => hk.2) (.int .i64 t328)) (fun _ hk => hk.2) (.int .i64 t329)) (fun _ hk => hk.2) (.bool t330)) (fun _ hk => hk.2) (.int .i64 t331)) (fun _ hk => hk.2) (.slice Ao26 t332.length co26)) (fun _ h_ => h_.1))) hb); have n1_ := Aside0.mk (Kd.R_below (by (with_reducible repeat (first | apply Kd.R_alloc | apply Kd.R_drewN | apply Kd.R_drew)); exact (Kd.R_mono (Kd.R_far (p := ⟨gb336, 5, none⟩) (Kd.R_far (p := ⟨gb336, 4, none⟩) (Kd.R_far (p := ⟨gb336, 3, none⟩) (Kd.R_far (p := ⟨gb336, 2, none⟩) (Kd.R_far (p := ⟨gb336, 1, none⟩) (Kd.R_far (p := ⟨gb336, 0, none⟩) (Kd.R_types HO324.out BK336.out (by decide)) (fun _ hk => hk.2) (.int .i64 t327)) (fun _ hk => hk.2) (.int .i64 t328)) (fun _ hk => hk.2) (.int .i64 t329)) (fun _ hk => hk.2) (.bool t330)) (fun _ hk => hk.2) (.int .i64 t331)) (fun _ hk => hk.2) (.slice Ao26 t332.length co26)) (fun _ h_ => h_.1))) hb); have n2_ := Aside0.mk (Kd.R_below (by (with_reducible repeat (first | apply Kd.R_alloc | apply Kd.R_drewN | apply Kd.R_drew)); exact (Kd.R_mono (Kd.R_far (p := ⟨gb336, 5, none⟩) (Kd.R_far (p := ⟨gb336, 4, none⟩) (Kd.R_far (p := ⟨gb336, 3, none⟩) (Kd.R_far (p := ⟨gb336, 2, none⟩) (Kd.R_far (p := ⟨gb336, 1, none⟩) (Kd.R_far (p := ⟨gb336, 0, none⟩) (Kd.R_types HO334.out BK336.out (by decide)) (fun _ hk => hk.2) (.int .i64 t327)) (fun _ hk => hk.2) (.int .i64 t328)) (fun _ hk => hk.2) (.int .i64 t329)) (fun _ hk => hk.2) (.bool t330)) (fun _ hk => hk.2) (.int .i64 t331)) (fun _ hk => hk.2) (.slice Ao26 t332.length co26)) (fun _ h_ => h_.1))) hb); have n3_ := Aside0.mk (blk_below (g := gb311) (o := .cells #[.int .i64 a0_0, .int .i64 a0_1, .int .i64 a0_2, .bool a0_3, .int .i64 a0_4, .slice A0_5 l0_5.length c0_5] 24 (0, 0)) (by (with_reducible repeat (first | refine blk_drewN ?_ _ | refine blk_drew ?_ | refine blk_alloc ?_ _)); refine blk_far ?_ NB311_336.out _; (with_reducible repeat (first | refine blk_drewN ?_ _ | refine blk_drew ?_ | refine blk_alloc ?_ _)); refine blk_far ?_ NB311_336.out _; (with_reducible repeat (first | refine blk_drewN ?_ _ | refine blk_drew ?_ | refine blk_alloc ?_ _)); refine blk_far ?_ NB311_336.out _; (with_reducible repeat (first | refine blk_drewN ?_ _ | refine blk_drew ?_ | refine blk_alloc ?_ _)); refine blk_far ?_ NB311_336.out _; (with_reducible repeat (first | refine blk_drewN ?_ _ | refine blk_drew ?_ | refine blk_alloc ?_ _)); refine blk_far ?_ NB311_336.out _; (with_reducible repeat (first | refine blk_drewN ?_ _ | refine blk_drew ?_ | refine blk_alloc ?_ _)); refine blk_far ?_ NB311_336.out _; (with_reducible repeat (first | refine blk_drewN ?_ _ | refine blk_drew ?_ | refine blk_alloc ?_ _)); exact BK311.out) hb); have n4_ := Aside0.mk (blk_below (g := gb326) (o := .cells #[.int .i64 t317, .int .i64 t318, .int .i64 t319, .bool t320, .int .i64 t321, .slice Ao20 t322.length co20] 24 (0, 0)) (by (with_reducible repeat (first | refine blk_drewN ?_ _ | refine blk_drew ?_ | refine blk_alloc ?_ _)); refine blk_far ?_ NB326_336.out _; (with_reducible repeat (first | refine blk_drewN ?_ _ | refine blk_drew ?_ | refine blk_alloc ?_ _)); refine blk_far ?_ NB326_336.out _; (with_reducible repeat (first | refine blk_drewN ?_ _ | refine blk_drew ?_ | refine blk_alloc ?_ _)); refine blk_far ?_ NB326_336.out _; (with_reducible repeat (first | refine blk_drewN ?_ _ | refine blk_drew ?_ | refine blk_alloc ?_ _)); refine blk_far ?_ NB326_336.out _; (with_reducible repeat (first | refine blk_drewN ?_ _ | refine blk_drew ?_ | refine blk_alloc ?_ _)); refine blk_far ?_ NB326_336.out _; (with_reducible repeat (first | refine blk_drewN ?_ _ | refine blk_drew ?_ | refine blk_alloc ?_ _)); refine blk_far ?_ NB326_336.out _; (with_reducible repeat (first | refine blk_drewN ?_ _ | refine blk_drew ?_ | refine blk_alloc ?_ _)); exact BK326.out) hb); have n5_ := Aside0.mk (blk_below (g := gb336) (o := .cells #[.int .i64 t327, .int .i64 t328, .int .i64 t329, .bool t330, .int .i64 t331, .slice Ao26 t332.length co26] 24 (0, 0)) (by (with_reducible repeat (first | refine blk_drewN ?_ _ | refine blk_drew ?_ | refine blk_alloc ?_ _)); refine blk_put (cs := #[.int .i64 t327, .int .i64 t328, .int .i64 t329, .bool t330, .int .i64 t331, .slice none 0 0]) ?_ 5 _ rfl; (with_reducible repeat (first | refine blk_drewN ?_ _ | refine blk_drew ?_ | refine blk_alloc ?_ _)); refine blk_put (cs := #[.int .i64 t327, .int .i64 t328, .int .i64 t329, .bool t330, .int .i64 0, .slice none 0 0]) ?_ 4 _ rfl; (with_reducible repeat (first | refine blk_drewN ?_ _ | refine blk_drew ?_ | refine blk_alloc ?_ _)); refine blk_put (cs := #[.int .i64 t327, .int .i64 t328, .int .i64 t329, .bool false, .int .i64 0, .slice none 0 0]) ?_ 3 _ rfl; (with_reducible repeat (first | refine blk_drewN ?_ _ | refine blk_drew ?_ | refine blk_alloc ?_ _)); refine blk_put (cs := #[.int .i64 t327, .int .i64 t328, .int .i64 0, .bool false, .int .i64 0, .slice none 0 0]) ?_ 2 _ rfl; (with_reducible repeat (first | refine blk_drewN ?_ _ | refine blk_drew ?_ | refine blk_alloc ?_ _)); refine blk_put (cs := #[.int .i64 t327, .int .i64 0, .int .i64 0, .bool false, .int .i64 0, .slice none 0 0]) ?_ 1 _ rfl; (with_reducible repeat (first | refine blk_drewN ?_ _ | refine blk_drew ?_ | refine blk_alloc ?_ _)); refine blk_put (cs := #[.int .i64 0, .int .i64 0, .int .i64 0, .bool false, .int .i64 0, .slice none 0 0]) ?_ 0 _ rfl; (with_reducible repeat (first | refine blk_drewN ?_ _ | refine blk_drew ?_ | refine blk_alloc ?_ _)); exact BK336.out) hb); have n6_ := Aside0.mk (below_step (by repeat (first | (with_reducible first | exact HB.out | apply below_alloc | apply pw_below_drewN | apply below_drew1 | refine below_set ?_ GE311.out | refine below_set ?_ GE326.out | refine below_set ?_ GE336.out) | exact HB.out)) hb); clear HO315; clear HO324; clear HO334; clear BK311; clear BK326; clear BK336; clear HB; have HO315 := n0_; have HO324 := n1_; have HO334 := n2_; have BK311 := n3_; have BK326 := n4_; have BK336 := n5_; have HB := n6_; clear n0_ n1_ n2_ n3_ n4_ n5_ n6_; (try clear hb); (try clear hb2); (try clear hk); (try clear hi)))
        go_meet
        case rel => exact ⟨_, (((t313.length : Int) != 128)), (by first | rfl | (simp; done) | (simp [*]; done)), H', ⟨by first | omega | exact Nat.le_refl _⟩, ⟨by (with_reducible repeat (first | apply Kd.R_alloc | apply Kd.R_drewN | apply Kd.R_drew)); exact Kd.R_mono HO324.out (fun _ hk => hk.2)⟩, ⟨by (with_reducible repeat (first | apply Kd.R_alloc | apply Kd.R_drewN | apply Kd.R_drew)); exact Kd.R_mono HO334.out (fun _ hk => hk.2)⟩, ⟨by (with_reducible repeat (first | refine blk_drewN ?_ _ | refine blk_drew ?_ | refine blk_alloc ?_ _)); exact BK311.out⟩, ⟨by (with_reducible repeat (first | refine blk_drewN ?_ _ | refine blk_drew ?_ | refine blk_alloc ?_ _)); exact BK326.out⟩, ⟨by (with_reducible repeat (first | refine blk_drewN ?_ _ | refine blk_drew ?_ | refine blk_alloc ?_ _)); exact BK336.out⟩, ⟨by repeat (first | (with_reducible first | exact HB.out | apply below_alloc | apply pw_below_drewN | apply below_drew1 | refine below_set ?_ GE311.out | refine below_set ?_ GE326.out | refine below_set ?_ GE336.out) | exact HB.out)⟩⟩
      replace c29 := Bool.eq_false_iff.mpr c29
      subst c29
      have H1 : (undercroftlaw09_InodeBack.j0 k a1 a2 t335 true a0_0 a0_1 a0_2 a0_3 a0_4 l0_5 t327 t328 t329 t330 t331 t332) = some r := by rw [if_neg (show ¬ (false = true) by decide)] at H; exact H
      clear H
      have H := H1
      clear H1
      have H' := Aside0.mk H
      clear H
      have hnb36 := NB311_326.out
      have hnc36 := NB326_311.out
      have hnb37 := NB311_336.out
      have hnc37 := NB336_311.out
      have hcz38_0 : w22.cell? ⟨gb311, 0, none⟩ = some (.int .i64 a0_0) := (blk_cell BK311.out 0).trans rfl
      have hcz38_1 : w22.cell? ⟨gb311, 1, none⟩ = some (.int .i64 a0_1) := (blk_cell BK311.out 1).trans rfl
      have hcz38_2 : w22.cell? ⟨gb311, 2, none⟩ = some (.int .i64 a0_2) := (blk_cell BK311.out 2).trans rfl
      have hcz38_3 : w22.cell? ⟨gb311, 3, none⟩ = some (.bool a0_3) := (blk_cell BK311.out 3).trans rfl
      have hcz38_4 : w22.cell? ⟨gb311, 4, none⟩ = some (.int .i64 a0_4) := (blk_cell BK311.out 4).trans rfl
      have hcz38_5 : w22.cell? ⟨gb311, 5, none⟩ = some (.slice A0_5 l0_5.length c0_5) := (blk_cell BK311.out 5).trans rfl
      have hfz38_0 := blk_frozen BK311.out 0
      have hfz38_1 := blk_frozen BK311.out 1
      have hfz38_2 := blk_frozen BK311.out 2
      have hfz38_3 := blk_frozen BK311.out 3
      have hfz38_4 := blk_frozen BK311.out 4
      have hfz38_5 := blk_frozen BK311.out 5
      have hnb39 := NB326_336.out
      have hnc39 := NB336_326.out
      have hcz40_0 : w22.cell? ⟨gb326, 0, none⟩ = some (.int .i64 t317) := (blk_cell BK326.out 0).trans rfl
      have hcz40_1 : w22.cell? ⟨gb326, 1, none⟩ = some (.int .i64 t318) := (blk_cell BK326.out 1).trans rfl
      have hcz40_2 : w22.cell? ⟨gb326, 2, none⟩ = some (.int .i64 t319) := (blk_cell BK326.out 2).trans rfl
      have hcz40_3 : w22.cell? ⟨gb326, 3, none⟩ = some (.bool t320) := (blk_cell BK326.out 3).trans rfl
      have hcz40_4 : w22.cell? ⟨gb326, 4, none⟩ = some (.int .i64 t321) := (blk_cell BK326.out 4).trans rfl
      have hcz40_5 : w22.cell? ⟨gb326, 5, none⟩ = some (.slice Ao20 t322.length co20) := (blk_cell BK326.out 5).trans rfl
      have hfz40_0 := blk_frozen BK326.out 0
      have hfz40_1 := blk_frozen BK326.out 1
      have hfz40_2 := blk_frozen BK326.out 2
      have hfz40_3 := blk_frozen BK326.out 3
      have hfz40_4 := blk_frozen BK326.out 4
      have hfz40_5 := blk_frozen BK326.out 5
      go_wp2_with (first | (go_at_call 14; (with_reducible refine (undercroftref09_Same.calls a0_0 a0_1 a0_2 a0_3 a0_4 _ _ l0_5 t317 t318 t319 t320 t321 _ _ t322 false _ ?side1 ?side2 ?side3 ?side4 A28.out).mono ?_); (case side1 => exact Kd.C_below HR0_5.out (by repeat (first | (with_reducible first | exact HB.out | apply below_alloc | apply pw_below_drewN | apply below_drew1 | refine below_set ?_ GE311.out | refine below_set ?_ GE326.out | refine below_set ?_ GE336.out) | exact HB.out))); (case side2 => exact HC0_5.out); (case side3 => refine (Kd.R_reads' (e := 5) (base := w.heap.size) (ok := fun k_ => ((True ∧ some k_ ≠ (.slice Ao15 t313.length co15 : Value).ownBlock) ∧ some k_ ≠ (.slice Ao26 t332.length co26 : Value).ownBlock)) (n := t322.length) (c := co20) ?_).2.2; exact (by (with_reducible repeat (first | apply Kd.R_alloc | apply Kd.R_drewN | apply Kd.R_drew)); exact (Kd.R_mono (Kd.R_far (p := ⟨gb336, 5, none⟩) (Kd.R_far (p := ⟨gb336, 4, none⟩) (Kd.R_far (p := ⟨gb336, 3, none⟩) (Kd.R_far (p := ⟨gb336, 2, none⟩) (Kd.R_far (p := ⟨gb336, 1, none⟩) (Kd.R_far (p := ⟨gb336, 0, none⟩) (Kd.R_types HO324.out BK336.out (by decide)) (fun _ hk => hk.2) (.int .i64 t327)) (fun _ hk => hk.2) (.int .i64 t328)) (fun _ hk => hk.2) (.int .i64 t329)) (fun _ hk => hk.2) (.bool t330)) (fun _ hk => hk.2) (.int .i64 t331)) (fun _ hk => hk.2) (.slice Ao26 t332.length co26)) (fun _ h_ => h_.1)))); (case side4 => exact (Kd.R_reads' HO324.out).2.1); rintro e w41 ⟨rfl, hb⟩; have n0_ := Aside0.mk (Kd.R_below (by (with_reducible repeat (first | apply Kd.R_alloc | apply Kd.R_drewN | apply Kd.R_drew)); exact (Kd.R_mono (Kd.R_far (p := ⟨gb336, 5, none⟩) (Kd.R_far (p := ⟨gb336, 4, none⟩) (Kd.R_far (p := ⟨gb336, 3, none⟩) (Kd.R_far (p := ⟨gb336, 2, none⟩) (Kd.R_far (p := ⟨gb336, 1, none⟩) (Kd.R_far (p := ⟨gb336, 0, none⟩) (Kd.R_types HO315.out BK336.out (by decide)) (fun _ hk => hk.2) (.int .i64 t327)) (fun _ hk => hk.2) (.int .i64 t328)) (fun _ hk => hk.2) (.int .i64 t329)) (fun _ hk => hk.2) (.bool t330)) (fun _ hk => hk.2) (.int .i64 t331)) (fun _ hk => hk.2) (.slice Ao26 t332.length co26)) (fun _ h_ => h_.1))) hb); have n1_ := Aside0.mk (Kd.R_below (by (with_reducible repeat (first | apply Kd.R_alloc | apply Kd.R_drewN | apply Kd.R_drew)); exact (Kd.R_mono (Kd.R_far (p := ⟨gb336, 5, none⟩) (Kd.R_far (p := ⟨gb336, 4, none⟩) (Kd.R_far (p := ⟨gb336, 3, none⟩) (Kd.R_far (p := ⟨gb336, 2, none⟩) (Kd.R_far (p := ⟨gb336, 1, none⟩) (Kd.R_far (p := ⟨gb336, 0, none⟩) (Kd.R_types HO324.out BK336.out (by decide)) (fun _ hk => hk.2) (.int .i64 t327)) (fun _ hk => hk.2) (.int .i64 t328)) (fun _ hk => hk.2) (.int .i64 t329)) (fun _ hk => hk.2) (.bool t330)) (fun _ hk => hk.2) (.int .i64 t331)) (fun _ hk => hk.2) (.slice Ao26 t332.length co26)) (fun _ h_ => h_.1))) hb); have n2_ := Aside0.mk (Kd.R_below (by (with_reducible repeat (first | apply Kd.R_alloc | apply Kd.R_drewN | apply Kd.R_drew)); exact (Kd.R_mono (Kd.R_far (p := ⟨gb336, 5, none⟩) (Kd.R_far (p := ⟨gb336, 4, none⟩) (Kd.R_far (p := ⟨gb336, 3, none⟩) (Kd.R_far (p := ⟨gb336, 2, none⟩) (Kd.R_far (p := ⟨gb336, 1, none⟩) (Kd.R_far (p := ⟨gb336, 0, none⟩) (Kd.R_types HO334.out BK336.out (by decide)) (fun _ hk => hk.2) (.int .i64 t327)) (fun _ hk => hk.2) (.int .i64 t328)) (fun _ hk => hk.2) (.int .i64 t329)) (fun _ hk => hk.2) (.bool t330)) (fun _ hk => hk.2) (.int .i64 t331)) (fun _ hk => hk.2) (.slice Ao26 t332.length co26)) (fun _ h_ => h_.1))) hb); have n3_ := Aside0.mk (blk_below (g := gb311) (o := .cells #[.int .i64 a0_0, .int .i64 a0_1, .int .i64 a0_2, .bool a0_3, .int .i64 a0_4, .slice A0_5 l0_5.length c0_5] 24 (0, 0)) (by (with_reducible repeat (first | refine blk_drewN ?_ _ | refine blk_drew ?_ | refine blk_alloc ?_ _)); refine blk_far ?_ NB311_336.out _; (with_reducible repeat (first | refine blk_drewN ?_ _ | refine blk_drew ?_ | refine blk_alloc ?_ _)); refine blk_far ?_ NB311_336.out _; (with_reducible repeat (first | refine blk_drewN ?_ _ | refine blk_drew ?_ | refine blk_alloc ?_ _)); refine blk_far ?_ NB311_336.out _; (with_reducible repeat (first | refine blk_drewN ?_ _ | refine blk_drew ?_ | refine blk_alloc ?_ _)); refine blk_far ?_ NB311_336.out _; (with_reducible repeat (first | refine blk_drewN ?_ _ | refine blk_drew ?_ | refine blk_alloc ?_ _)); refine blk_far ?_ NB311_336.out _; (with_reducible repeat (first | refine blk_drewN ?_ _ | refine blk_drew ?_ | refine blk_alloc ?_ _)); refine blk_far ?_ NB311_336.out _; (with_reducible repeat (first | refine blk_drewN ?_ _ | refine blk_drew ?_ | refine blk_alloc ?_ _)); exact BK311.out) hb); have n4_ := Aside0.mk (blk_below (g := gb326) (o := .cells #[.int .i64 t317, .int .i64 t318, .int .i64 t319, .bool t320, .int .i64 t321, .slice Ao20 t322.length co20] 24 (0, 0)) (by (with_reducible repeat (first | refine blk_drewN ?_ _ | refine blk_drew ?_ | refine blk_alloc ?_ _)); refine blk_far ?_ NB326_336.out _; (with_reducible repeat (first | refine blk_drewN ?_ _ | refine blk_drew ?_ | refine blk_alloc ?_ _)); refine blk_far ?_ NB326_336.out _; (with_reducible repeat (first | refine blk_drewN ?_ _ | refine blk_drew ?_ | refine blk_alloc ?_ _)); refine blk_far ?_ NB326_336.out _; (with_reducible repeat (first | refine blk_drewN ?_ _ | refine blk_drew ?_ | refine blk_alloc ?_ _)); refine blk_far ?_ NB326_336.out _; (with_reducible repeat (first | refine blk_drewN ?_ _ | refine blk_drew ?_ | refine blk_alloc ?_ _)); refine blk_far ?_ NB326_336.out _; (with_reducible repeat (first | refine blk_drewN ?_ _ | refine blk_drew ?_ | refine blk_alloc ?_ _)); refine blk_far ?_ NB326_336.out _; (with_reducible repeat (first | refine blk_drewN ?_ _ | refine blk_drew ?_ | refine blk_alloc ?_ _)); exact BK326.out) hb); have n5_ := Aside0.mk (blk_below (g := gb336) (o := .cells #[.int .i64 t327, .int .i64 t328, .int .i64 t329, .bool t330, .int .i64 t331, .slice Ao26 t332.length co26] 24 (0, 0)) (by (with_reducible repeat (first | refine blk_drewN ?_ _ | refine blk_drew ?_ | refine blk_alloc ?_ _)); refine blk_put (cs := #[.int .i64 t327, .int .i64 t328, .int .i64 t329, .bool t330, .int .i64 t331, .slice none 0 0]) ?_ 5 _ rfl; (with_reducible repeat (first | refine blk_drewN ?_ _ | refine blk_drew ?_ | refine blk_alloc ?_ _)); refine blk_put (cs := #[.int .i64 t327, .int .i64 t328, .int .i64 t329, .bool t330, .int .i64 0, .slice none 0 0]) ?_ 4 _ rfl; (with_reducible repeat (first | refine blk_drewN ?_ _ | refine blk_drew ?_ | refine blk_alloc ?_ _)); refine blk_put (cs := #[.int .i64 t327, .int .i64 t328, .int .i64 t329, .bool false, .int .i64 0, .slice none 0 0]) ?_ 3 _ rfl; (with_reducible repeat (first | refine blk_drewN ?_ _ | refine blk_drew ?_ | refine blk_alloc ?_ _)); refine blk_put (cs := #[.int .i64 t327, .int .i64 t328, .int .i64 0, .bool false, .int .i64 0, .slice none 0 0]) ?_ 2 _ rfl; (with_reducible repeat (first | refine blk_drewN ?_ _ | refine blk_drew ?_ | refine blk_alloc ?_ _)); refine blk_put (cs := #[.int .i64 t327, .int .i64 0, .int .i64 0, .bool false, .int .i64 0, .slice none 0 0]) ?_ 1 _ rfl; (with_reducible repeat (first | refine blk_drewN ?_ _ | refine blk_drew ?_ | refine blk_alloc ?_ _)); refine blk_put (cs := #[.int .i64 0, .int .i64 0, .int .i64 0, .bool false, .int .i64 0, .slice none 0 0]) ?_ 0 _ rfl; (with_reducible repeat (first | refine blk_drewN ?_ _ | refine blk_drew ?_ | refine blk_alloc ?_ _)); exact BK336.out) hb); have n6_ := Aside0.mk (below_step (by repeat (first | (with_reducible first | exact HB.out | apply below_alloc | apply pw_below_drewN | apply below_drew1 | refine below_set ?_ GE311.out | refine below_set ?_ GE326.out | refine below_set ?_ GE336.out) | exact HB.out)) hb); clear HO315; clear HO324; clear HO334; clear BK311; clear BK326; clear BK336; clear HB; have HO315 := n0_; have HO324 := n1_; have HO334 := n2_; have BK311 := n3_; have BK326 := n4_; have BK336 := n5_; have HB := n6_; clear n0_ n1_ n2_ n3_ n4_ n5_ n6_; (try clear hb); (try clear hb2); (try clear hk); (try clear hi)))
      go_meet
      case rel => exact ⟨_, (true), (by first | rfl | (simp; done) | (simp [*]; done)), H', ⟨by first | omega | exact Nat.le_refl _⟩, ⟨by (with_reducible repeat (first | apply Kd.R_alloc | apply Kd.R_drewN | apply Kd.R_drew)); exact Kd.R_mono HO324.out (fun _ hk => hk.2)⟩, ⟨by (with_reducible repeat (first | apply Kd.R_alloc | apply Kd.R_drewN | apply Kd.R_drew)); exact Kd.R_mono HO334.out (fun _ hk => hk.2)⟩, ⟨by (with_reducible repeat (first | refine blk_drewN ?_ _ | refine blk_drew ?_ | refine blk_alloc ?_ _)); exact BK311.out⟩, ⟨by (with_reducible repeat (first | refine blk_drewN ?_ _ | refine blk_drew ?_ | refine blk_alloc ?_ _)); exact BK326.out⟩, ⟨by (with_reducible repeat (first | refine blk_drewN ?_ _ | refine blk_drew ?_ | refine blk_alloc ?_ _)); exact BK336.out⟩, ⟨by repeat (first | (with_reducible first | exact HB.out | apply below_alloc | apply pw_below_drewN | apply below_drew1 | refine below_set ?_ GE311.out | refine below_set ?_ GE326.out | refine below_set ?_ GE336.out) | exact HB.out)⟩⟩
    case rest =>
      clear HC10
      try clear c1
      try clear c2
      try clear p2
      try clear c3
      try clear c5
      try clear c7
      try clear c7b0
      try clear c7b1
      try clear c8
      try clear c10
      try clear c15
      try clear c18
      try clear c23
      try clear c24
      try clear c27
      try clear c27b0
      try clear c27b1
      try clear c29
      try clear c30
      try clear c31
      try clear c33
      try clear c36
      try clear c37
      try clear c39
      try clear hcz13_0
      try clear hcz13_1
      try clear hcz13_2
      try clear hcz13_3
      try clear hcz13_4
      try clear hcz13_5
      try clear hcz19_0
      try clear hcz19_1
      try clear hcz19_2
      try clear hcz19_3
      try clear hcz19_4
      try clear hcz19_5
      try clear hcz25_0
      try clear hcz25_1
      try clear hcz25_2
      try clear hcz25_3
      try clear hcz25_4
      try clear hcz25_5
      try clear hcz32_0
      try clear hcz32_1
      try clear hcz32_2
      try clear hcz32_3
      try clear hcz32_4
      try clear hcz32_5
      try clear hcz34_0
      try clear hcz34_1
      try clear hcz34_2
      try clear hcz34_3
      try clear hcz34_4
      try clear hcz34_5
      try clear hcz38_0
      try clear hcz38_1
      try clear hcz38_2
      try clear hcz38_3
      try clear hcz38_4
      try clear hcz38_5
      try clear hcz40_0
      try clear hcz40_1
      try clear hcz40_2
      try clear hcz40_3
      try clear hcz40_4
      try clear hcz40_5
      try clear hfz13_0
      try clear hfz13_1
      try clear hfz13_2
      try clear hfz13_3
      try clear hfz13_4
      try clear hfz13_5
      try clear hfz19_0
      try clear hfz19_1
      try clear hfz19_2
      try clear hfz19_3
      try clear hfz19_4
      try clear hfz19_5
      try clear hfz25_0
      try clear hfz25_1
      try clear hfz25_2
      try clear hfz25_3
      try clear hfz25_4
      try clear hfz25_5
      try clear hfz32_0
      try clear hfz32_1
      try clear hfz32_2
      try clear hfz32_3
      try clear hfz32_4
      try clear hfz32_5
      try clear hfz34_0
      try clear hfz34_1
      try clear hfz34_2
      try clear hfz34_3
      try clear hfz34_4
      try clear hfz34_5
      try clear hfz38_0
      try clear hfz38_1
      try clear hfz38_2
      try clear hfz38_3
      try clear hfz38_4
      try clear hfz38_5
      try clear hfz40_0
      try clear hfz40_1
      try clear hfz40_2
      try clear hfz40_3
      try clear hfz40_4
      try clear hfz40_5
      obtain ⟨kq, x50_9, rfl, HA, HJ9, HO_327005, HO_337005, BK311, BK326, BK336, HB⟩ := hcut
      cases kq with
      | zero => exact absurd HA.out (by simp [undercroftlaw09_InodeBack.j0])
      | succ kj9 =>
        have H := HA.out
        clear HA
        simp only [undercroftlaw09_InodeBack.j0] at H
        by_cases c42 : x50_9 = true
        · subst c42
          have H1 : (some false) = some r := by rw [if_pos rfl] at H; exact H
          clear H
          have H := H1
          clear H1
          exact absurd (Option.some.inj H) (by rw [hT]; decide)
        replace c42 := Bool.eq_false_iff.mpr c42
        subst c42
        have H1 : (if a0_0 = 0 then (undercroftlaw09_InodeBack.j1 kj9 a2 t335 true a0_0 a0_1 a0_2 a0_3 a0_4 l0_5 t327 t328 t329 t330 t331 t332) else (undercroftlaw09_InodeBack.j1 kj9 a2 t335 (a2 == a1) a0_0 a0_1 a0_2 a0_3 a0_4 l0_5 t327 t328 t329 t330 t331 t332)) = some r := by rw [if_neg (show ¬ (false = true) by decide)] at H; exact H
        clear H
        have H := H1
        clear H1
        have HC43 := Aside0.mk H
        clear H
        go_upto_region 10 with (fail)
        go_cut [58] (fun v58 wc => ∃ (kq : Nat) (x58_42 : Bool), v58 = .bool x58_42 ∧ Aside0 (undercroftlaw09_InodeBack.j1 kq a2 t335 x58_42 a0_0 a0_1 a0_2 a0_3 a0_4 l0_5 t327 t328 t329 t330 t331 t332 = some r) ∧ Aside0 (kq ≤ kj9) ∧ Aside0 (Kd.R (Kd.int .u8) 5 wc w.heap.size (fun k_ => some k_ ≠ ((.slice Ao26 t332.length co26) : Value).ownBlock) (.slice Ao20 t322.length co20) t322) ∧ Aside0 (Kd.R (Kd.int .u8) 5 wc w.heap.size (fun k_ => some k_ ≠ ((.slice Ao20 t322.length co20) : Value).ownBlock) (.slice Ao26 t332.length co26) t332) ∧ Aside0 (wc.heap[gb311]? = some (.cells #[.int .i64 a0_0, .int .i64 a0_1, .int .i64 a0_2, .bool a0_3, .int .i64 a0_4, (.slice A0_5 l0_5.length c0_5)] 24 (0, 0))) ∧ Aside0 (wc.heap[gb326]? = some (.cells #[.int .i64 t317, .int .i64 t318, .int .i64 t319, .bool t320, .int .i64 t321, (.slice Ao20 t322.length co20)] 24 (0, 0))) ∧ Aside0 (wc.heap[gb336]? = some (.cells #[.int .i64 t327, .int .i64 t328, .int .i64 t329, .bool t330, .int .i64 t331, (.slice Ao26 t332.length co26)] 24 (0, 0))) ∧ Aside0 (Below w.heap.size w wc))
        case first =>
          have H := HC43.out
          clear HC43
          by_cases c44 : a0_0 = 0
          rotate_left
          · rw [if_neg c44] at H
            have c44b0 : (a0_0 == 0) = false := beq_eq_false_iff_ne.mpr c44
            have c44b1 : (a0_0 != 0) = true := bne_iff_ne.mpr c44
            (first | rw [c44b0] | (simp only [i64_w, i32_w]; rw [c44b0]) | skip)
            have H' := Aside0.mk H
            clear H
            have hnb48 := NB311_326.out
            have hnc48 := NB326_311.out
            have hnb49 := NB311_336.out
            have hnc49 := NB336_311.out
            have hcz50_0 : wc.cell? ⟨gb311, 0, none⟩ = some (.int .i64 a0_0) := (blk_cell BK311.out 0).trans rfl
            have hcz50_1 : wc.cell? ⟨gb311, 1, none⟩ = some (.int .i64 a0_1) := (blk_cell BK311.out 1).trans rfl
            have hcz50_2 : wc.cell? ⟨gb311, 2, none⟩ = some (.int .i64 a0_2) := (blk_cell BK311.out 2).trans rfl
            have hcz50_3 : wc.cell? ⟨gb311, 3, none⟩ = some (.bool a0_3) := (blk_cell BK311.out 3).trans rfl
            have hcz50_4 : wc.cell? ⟨gb311, 4, none⟩ = some (.int .i64 a0_4) := (blk_cell BK311.out 4).trans rfl
            have hcz50_5 : wc.cell? ⟨gb311, 5, none⟩ = some (.slice A0_5 l0_5.length c0_5) := (blk_cell BK311.out 5).trans rfl
            have hfz50_0 := blk_frozen BK311.out 0
            have hfz50_1 := blk_frozen BK311.out 1
            have hfz50_2 := blk_frozen BK311.out 2
            have hfz50_3 := blk_frozen BK311.out 3
            have hfz50_4 := blk_frozen BK311.out 4
            have hfz50_5 := blk_frozen BK311.out 5
            go_wp2
            go_meet
            case rel => exact ⟨_, ((a2 == a1)), (by first | rfl | (simp; done) | (simp [*]; done)), H', ⟨by have := HJ9.out; first | omega | exact Nat.le_refl _⟩, ⟨by (with_reducible repeat (first | apply Kd.R_alloc | apply Kd.R_drewN | apply Kd.R_drew)); exact HO_327005.out⟩, ⟨by (with_reducible repeat (first | apply Kd.R_alloc | apply Kd.R_drewN | apply Kd.R_drew)); exact HO_337005.out⟩, ⟨by (with_reducible repeat (first | refine blk_drewN ?_ _ | refine blk_drew ?_ | refine blk_alloc ?_ _)); exact BK311.out⟩, ⟨by (with_reducible repeat (first | refine blk_drewN ?_ _ | refine blk_drew ?_ | refine blk_alloc ?_ _)); exact BK326.out⟩, ⟨by (with_reducible repeat (first | refine blk_drewN ?_ _ | refine blk_drew ?_ | refine blk_alloc ?_ _)); exact BK336.out⟩, ⟨by repeat (first | (with_reducible first | exact HB.out | apply below_alloc | apply pw_below_drewN | apply below_drew1 | refine below_set ?_ GE311.out | refine below_set ?_ GE326.out | refine below_set ?_ GE336.out) | exact HB.out)⟩⟩
          rw [if_pos c44] at H
          have c44b0 : (a0_0 == 0) = true := beq_iff_eq.mpr c44
          have c44b1 : (a0_0 != 0) = false := bne_eq_false_iff_eq.mpr c44
          clear c44
          (first | rw [c44b0] | (simp only [i64_w, i32_w]; rw [c44b0]) | skip)
          have H' := Aside0.mk H
          clear H
          have hnb45 := NB311_326.out
          have hnc45 := NB326_311.out
          have hnb46 := NB311_336.out
          have hnc46 := NB336_311.out
          have hcz47_0 : wc.cell? ⟨gb311, 0, none⟩ = some (.int .i64 a0_0) := (blk_cell BK311.out 0).trans rfl
          have hcz47_1 : wc.cell? ⟨gb311, 1, none⟩ = some (.int .i64 a0_1) := (blk_cell BK311.out 1).trans rfl
          have hcz47_2 : wc.cell? ⟨gb311, 2, none⟩ = some (.int .i64 a0_2) := (blk_cell BK311.out 2).trans rfl
          have hcz47_3 : wc.cell? ⟨gb311, 3, none⟩ = some (.bool a0_3) := (blk_cell BK311.out 3).trans rfl
          have hcz47_4 : wc.cell? ⟨gb311, 4, none⟩ = some (.int .i64 a0_4) := (blk_cell BK311.out 4).trans rfl
          have hcz47_5 : wc.cell? ⟨gb311, 5, none⟩ = some (.slice A0_5 l0_5.length c0_5) := (blk_cell BK311.out 5).trans rfl
          have hfz47_0 := blk_frozen BK311.out 0
          have hfz47_1 := blk_frozen BK311.out 1
          have hfz47_2 := blk_frozen BK311.out 2
          have hfz47_3 := blk_frozen BK311.out 3
          have hfz47_4 := blk_frozen BK311.out 4
          have hfz47_5 := blk_frozen BK311.out 5
          go_wp2
          go_meet
          case rel => exact ⟨_, (true), (by first | rfl | (simp; done) | (simp [*]; done)), H', ⟨by have := HJ9.out; first | omega | exact Nat.le_refl _⟩, ⟨by (with_reducible repeat (first | apply Kd.R_alloc | apply Kd.R_drewN | apply Kd.R_drew)); exact HO_327005.out⟩, ⟨by (with_reducible repeat (first | apply Kd.R_alloc | apply Kd.R_drewN | apply Kd.R_drew)); exact HO_337005.out⟩, ⟨by (with_reducible repeat (first | refine blk_drewN ?_ _ | refine blk_drew ?_ | refine blk_alloc ?_ _)); exact BK311.out⟩, ⟨by (with_reducible repeat (first | refine blk_drewN ?_ _ | refine blk_drew ?_ | refine blk_alloc ?_ _)); exact BK326.out⟩, ⟨by (with_reducible repeat (first | refine blk_drewN ?_ _ | refine blk_drew ?_ | refine blk_alloc ?_ _)); exact BK336.out⟩, ⟨by repeat (first | (with_reducible first | exact HB.out | apply below_alloc | apply pw_below_drewN | apply below_drew1 | refine below_set ?_ GE311.out | refine below_set ?_ GE326.out | refine below_set ?_ GE336.out) | exact HB.out)⟩⟩
        case rest =>
          clear HC43
          try clear c1
          try clear c2
          try clear p2
          try clear c3
          try clear c4
          try clear c5
          try clear c7
          try clear c7b0
          try clear c7b1
          try clear c8
          try clear c10
          try clear c15
          try clear c18
          try clear c23
          try clear c24
          try clear c27
          try clear c27b0
          try clear c27b1
          try clear c29
          try clear c30
          try clear c31
          try clear c33
          try clear c36
          try clear c37
          try clear c39
          try clear c42
          try clear c44
          try clear c44b0
          try clear c44b1
          try clear c45
          try clear c46
          try clear c48
          try clear c49
          try clear hcz13_0
          try clear hcz13_1
          try clear hcz13_2
          try clear hcz13_3
          try clear hcz13_4
          try clear hcz13_5
          try clear hcz19_0
          try clear hcz19_1
          try clear hcz19_2
          try clear hcz19_3
          try clear hcz19_4
          try clear hcz19_5
          try clear hcz25_0
          try clear hcz25_1
          try clear hcz25_2
          try clear hcz25_3
          try clear hcz25_4
          try clear hcz25_5
          try clear hcz32_0
          try clear hcz32_1
          try clear hcz32_2
          try clear hcz32_3
          try clear hcz32_4
          try clear hcz32_5
          try clear hcz34_0
          try clear hcz34_1
          try clear hcz34_2
          try clear hcz34_3
          try clear hcz34_4
          try clear hcz34_5
          try clear hcz38_0
          try clear hcz38_1
          try clear hcz38_2
          try clear hcz38_3
          try clear hcz38_4
          try clear hcz38_5
          try clear hcz40_0
          try clear hcz40_1
          try clear hcz40_2
          try clear hcz40_3
          try clear hcz40_4
          try clear hcz40_5
          try clear hcz47_0
          try clear hcz47_1
          try clear hcz47_2
          try clear hcz47_3
          try clear hcz47_4
          try clear hcz47_5
          try clear hcz50_0
          try clear hcz50_1
          try clear hcz50_2
          try clear hcz50_3
          try clear hcz50_4
          try clear hcz50_5
          try clear hfz13_0
          try clear hfz13_1
          try clear hfz13_2
          try clear hfz13_3
          try clear hfz13_4
          try clear hfz13_5
          try clear hfz19_0
          try clear hfz19_1
          try clear hfz19_2
          try clear hfz19_3
          try clear hfz19_4
          try clear hfz19_5
          try clear hfz25_0
          try clear hfz25_1
          try clear hfz25_2
          try clear hfz25_3
          try clear hfz25_4
          try clear hfz25_5
          try clear hfz32_0
          try clear hfz32_1
          try clear hfz32_2
          try clear hfz32_3
          try clear hfz32_4
          try clear hfz32_5
          try clear hfz34_0
          try clear hfz34_1
          try clear hfz34_2
          try clear hfz34_3
          try clear hfz34_4
          try clear hfz34_5
          try clear hfz38_0
          try clear hfz38_1
          try clear hfz38_2
          try clear hfz38_3
          try clear hfz38_4
          try clear hfz38_5
          try clear hfz40_0
          try clear hfz40_1
          try clear hfz40_2
          try clear hfz40_3
          try clear hfz40_4
          try clear hfz40_5
          try clear hfz47_0
          try clear hfz47_1
          try clear hfz47_2
          try clear hfz47_3
          try clear hfz47_4
          try clear hfz47_5
          try clear hfz50_0
          try clear hfz50_1
          try clear hfz50_2
          try clear hfz50_3
          try clear hfz50_4
          try clear hfz50_5
          try clear p2
          obtain ⟨kq, x58_42, rfl, HA, HJ42, HO_327005, HO_337005, BK311, BK326, BK336, HB⟩ := hcut
          cases kq with
          | zero => exact absurd HA.out (by simp [undercroftlaw09_InodeBack.j1])
          | succ kj42 =>
            have H := HA.out
            clear HA
            simp only [undercroftlaw09_InodeBack.j1] at H
            by_cases c51 : x58_42 = true
            rotate_left
            · replace c51 := Bool.eq_false_iff.mpr c51
              subst c51
              have H1 : (if t335 = 0 then (some false) else ((undercroftref09_None.f t327 t328 t329 t330 t331 t332).bind fun t339 => (some t339))) = some r := by rw [if_neg (show ¬ (false = true) by decide)] at H; exact H
              clear H
              have H := H1
              clear H1
              by_cases c75 : t335 = 0
              · rw [if_pos c75] at H
                have c75b0 : (t335 == 0) = true := beq_iff_eq.mpr c75
                have c75b1 : (t335 != 0) = false := bne_eq_false_iff_eq.mpr c75
                clear c75
                exact absurd (Option.some.inj H) (by rw [hT]; decide)
              rw [if_neg c75] at H
              have c75b0 : (t335 == 0) = false := beq_eq_false_iff_ne.mpr c75
              have c75b1 : (t335 != 0) = true := bne_iff_ne.mpr c75
              replace H := Option.bind_eq_some_iff.mp H
              obtain ⟨t339, A760, H⟩ := H
              replace H : (some t339) = some r := H
              have A76 := Aside0.mk A760
              clear A760
              obtain rfl := Option.some.inj H
              have hnb77 := NB336_311.out
              have hnc77 := NB311_336.out
              have hnb78 := NB336_326.out
              have hnc78 := NB326_336.out
              have hcz79_0 : wc.cell? ⟨gb336, 0, none⟩ = some (.int .i64 t327) := (blk_cell BK336.out 0).trans rfl
              have hcz79_1 : wc.cell? ⟨gb336, 1, none⟩ = some (.int .i64 t328) := (blk_cell BK336.out 1).trans rfl
              have hcz79_2 : wc.cell? ⟨gb336, 2, none⟩ = some (.int .i64 t329) := (blk_cell BK336.out 2).trans rfl
              have hcz79_3 : wc.cell? ⟨gb336, 3, none⟩ = some (.bool t330) := (blk_cell BK336.out 3).trans rfl
              have hcz79_4 : wc.cell? ⟨gb336, 4, none⟩ = some (.int .i64 t331) := (blk_cell BK336.out 4).trans rfl
              have hcz79_5 : wc.cell? ⟨gb336, 5, none⟩ = some (.slice Ao26 t332.length co26) := (blk_cell BK336.out 5).trans rfl
              have hfz79_0 := blk_frozen BK336.out 0
              have hfz79_1 := blk_frozen BK336.out 1
              have hfz79_2 := blk_frozen BK336.out 2
              have hfz79_3 := blk_frozen BK336.out 3
              have hfz79_4 := blk_frozen BK336.out 4
              have hfz79_5 := blk_frozen BK336.out 5
              go_wp2_with (first | (go_at_call 17; (with_reducible refine (undercroftref09_None.calls t327 t328 t329 t330 t331 _ _ t332 t339 _ ?side1 ?side2 A76.out).mono ?_); (case side1 => repeat (first | exact (Kd.R_reads' HO_337005.out).2.2 | (with_reducible refine Kd.C_alloc ?_ _) | (with_reducible refine Kd.C_drewN ?_ _) | (with_reducible refine Kd.C_drew ?_))); (case side2 => exact (Kd.R_reads' HO_337005.out).2.1); rintro e w80 ⟨rfl, hb⟩; have n0_ := Aside0.mk (Kd.R_below (by (with_reducible repeat (first | apply Kd.R_alloc | apply Kd.R_drewN | apply Kd.R_drew)); exact HO_327005.out) hb); have n1_ := Aside0.mk (Kd.R_below (by (with_reducible repeat (first | apply Kd.R_alloc | apply Kd.R_drewN | apply Kd.R_drew)); exact HO_337005.out) hb); have n2_ := Aside0.mk (blk_below (g := gb311) (o := .cells #[.int .i64 a0_0, .int .i64 a0_1, .int .i64 a0_2, .bool a0_3, .int .i64 a0_4, .slice A0_5 l0_5.length c0_5] 24 (0, 0)) (by (with_reducible repeat (first | refine blk_drewN ?_ _ | refine blk_drew ?_ | refine blk_alloc ?_ _)); exact BK311.out) hb); have n3_ := Aside0.mk (blk_below (g := gb326) (o := .cells #[.int .i64 t317, .int .i64 t318, .int .i64 t319, .bool t320, .int .i64 t321, .slice Ao20 t322.length co20] 24 (0, 0)) (by (with_reducible repeat (first | refine blk_drewN ?_ _ | refine blk_drew ?_ | refine blk_alloc ?_ _)); exact BK326.out) hb); have n4_ := Aside0.mk (blk_below (g := gb336) (o := .cells #[.int .i64 t327, .int .i64 t328, .int .i64 t329, .bool t330, .int .i64 t331, .slice Ao26 t332.length co26] 24 (0, 0)) (by (with_reducible repeat (first | refine blk_drewN ?_ _ | refine blk_drew ?_ | refine blk_alloc ?_ _)); exact BK336.out) hb); have n5_ := Aside0.mk (below_step (by repeat (first | (with_reducible first | exact HB.out | apply below_alloc | apply pw_below_drewN | apply below_drew1 | refine below_set ?_ GE311.out | refine below_set ?_ GE326.out | refine below_set ?_ GE336.out) | exact HB.out)) hb); clear HO_327005; clear HO_337005; clear BK311; clear BK326; clear BK336; clear HB; have HO_327005 := n0_; have HO_337005 := n1_; have BK311 := n2_; have BK326 := n3_; have BK336 := n4_; have HB := n5_; clear n0_ n1_ n2_ n3_ n4_ n5_; (try clear hb); (try clear hb2); (try clear hk); (try clear hi)))
              go_ret
              exact ⟨by first | rfl | (simp [errW_none, errW_some] <;> rfl) | (simp [*, errW_none, errW_some] <;> rfl), by repeat (first | (with_reducible first | exact HB.out | apply below_alloc | apply pw_below_drewN | apply below_drew1 | refine below_set ?_ GE311.out | refine below_set ?_ GE326.out | refine below_set ?_ GE336.out) | exact HB.out)⟩
            subst c51
            have H1 : (if t335 = 0 then ((undercroftref09_Same.f a0_0 a0_1 a0_2 a0_3 a0_4 l0_5 t327 t328 t329 t330 t331 t332).bind fun t338 => (if t338 = true then (some true) else (if a2 < 0 then (some true) else (some (decide (a2 > 1048576)))))) else (if a2 < 0 then (some true) else (some (decide (a2 > 1048576))))) = some r := by rw [if_pos rfl] at H; exact H
            clear H
            have H := H1
            clear H1
            by_cases c52 : t335 = 0
            rotate_left
            · rw [if_neg c52] at H
              have c52b0 : (t335 == 0) = false := beq_eq_false_iff_ne.mpr c52
              have c52b1 : (t335 != 0) = true := bne_iff_ne.mpr c52
              by_cases c74 : a2 < 0
              · rw [if_pos c74] at H
                have c74b0 : decide (a2 < 0) = true := decide_eq_true c74
                clear c74
                obtain rfl := Option.some.inj H
                go_wp2
                go_ret
                exact ⟨by first | rfl | (simp [errW_none, errW_some] <;> rfl) | (simp [*, errW_none, errW_some] <;> rfl), by repeat (first | (with_reducible first | exact HB.out | apply below_alloc | apply pw_below_drewN | apply below_drew1 | refine below_set ?_ GE311.out | refine below_set ?_ GE326.out | refine below_set ?_ GE336.out) | exact HB.out)⟩
              rw [if_neg c74] at H
              have c74b0 : decide (a2 < 0) = false := decide_eq_false c74
              clear c74
              obtain rfl := Option.some.inj H
              go_wp2
              go_ret
              exact ⟨by first | rfl | (simp [errW_none, errW_some] <;> rfl) | (simp [*, errW_none, errW_some] <;> rfl), by repeat (first | (with_reducible first | exact HB.out | apply below_alloc | apply pw_below_drewN | apply below_drew1 | refine below_set ?_ GE311.out | refine below_set ?_ GE326.out | refine below_set ?_ GE336.out) | exact HB.out)⟩
            rw [if_pos c52] at H
            have c52b0 : (t335 == 0) = true := beq_iff_eq.mpr c52
            have c52b1 : (t335 != 0) = false := bne_eq_false_iff_eq.mpr c52
            clear c52
            replace H := Option.bind_eq_some_iff.mp H
            obtain ⟨t338, A530, H⟩ := H
            replace H : (if t338 = true then (some true) else (if a2 < 0 then (some true) else (some (decide (a2 > 1048576))))) = some r := H
            have A53 := Aside0.mk A530
            clear A530
            by_cases c54 : t338 = true
            · subst c54
              have H1 : (some true) = some r := by rw [if_pos rfl] at H; exact H
              clear H
              have H := H1
              clear H1
              obtain rfl := Option.some.inj H
              have hnb55 := NB311_326.out
              have hnc55 := NB326_311.out
              have hnb56 := NB311_336.out
              have hnc56 := NB336_311.out
              have hcz57_0 : wc.cell? ⟨gb311, 0, none⟩ = some (.int .i64 a0_0) := (blk_cell BK311.out 0).trans rfl
              have hcz57_1 : wc.cell? ⟨gb311, 1, none⟩ = some (.int .i64 a0_1) := (blk_cell BK311.out 1).trans rfl
              have hcz57_2 : wc.cell? ⟨gb311, 2, none⟩ = some (.int .i64 a0_2) := (blk_cell BK311.out 2).trans rfl
              have hcz57_3 : wc.cell? ⟨gb311, 3, none⟩ = some (.bool a0_3) := (blk_cell BK311.out 3).trans rfl
              have hcz57_4 : wc.cell? ⟨gb311, 4, none⟩ = some (.int .i64 a0_4) := (blk_cell BK311.out 4).trans rfl
              have hcz57_5 : wc.cell? ⟨gb311, 5, none⟩ = some (.slice A0_5 l0_5.length c0_5) := (blk_cell BK311.out 5).trans rfl
              have hfz57_0 := blk_frozen BK311.out 0
              have hfz57_1 := blk_frozen BK311.out 1
              have hfz57_2 := blk_frozen BK311.out 2
              have hfz57_3 := blk_frozen BK311.out 3
              have hfz57_4 := blk_frozen BK311.out 4
              have hfz57_5 := blk_frozen BK311.out 5
              have hnb58 := NB336_326.out
              have hnc58 := NB326_336.out
              have hcz59_0 : wc.cell? ⟨gb336, 0, none⟩ = some (.int .i64 t327) := (blk_cell BK336.out 0).trans rfl
              have hcz59_1 : wc.cell? ⟨gb336, 1, none⟩ = some (.int .i64 t328) := (blk_cell BK336.out 1).trans rfl
              have hcz59_2 : wc.cell? ⟨gb336, 2, none⟩ = some (.int .i64 t329) := (blk_cell BK336.out 2).trans rfl
              have hcz59_3 : wc.cell? ⟨gb336, 3, none⟩ = some (.bool t330) := (blk_cell BK336.out 3).trans rfl
              have hcz59_4 : wc.cell? ⟨gb336, 4, none⟩ = some (.int .i64 t331) := (blk_cell BK336.out 4).trans rfl
              have hcz59_5 : wc.cell? ⟨gb336, 5, none⟩ = some (.slice Ao26 t332.length co26) := (blk_cell BK336.out 5).trans rfl
              have hfz59_0 := blk_frozen BK336.out 0
              have hfz59_1 := blk_frozen BK336.out 1
              have hfz59_2 := blk_frozen BK336.out 2
              have hfz59_3 := blk_frozen BK336.out 3
              have hfz59_4 := blk_frozen BK336.out 4
              have hfz59_5 := blk_frozen BK336.out 5
              go_wp2_with (first | (go_at_call 14; (with_reducible refine (undercroftref09_Same.calls a0_0 a0_1 a0_2 a0_3 a0_4 _ _ l0_5 t327 t328 t329 t330 t331 _ _ t332 true _ ?side1 ?side2 ?side3 ?side4 A53.out).mono ?_); (case side1 => repeat (first | exact (Kd.C_below HR0_5.out HB.out) | (with_reducible refine Kd.C_alloc ?_ _) | (with_reducible refine Kd.C_drewN ?_ _) | (with_reducible refine Kd.C_drew ?_))); (case side2 => exact HC0_5.out); (case side3 => repeat (first | exact (Kd.R_reads' HO_337005.out).2.2 | (with_reducible refine Kd.C_alloc ?_ _) | (with_reducible refine Kd.C_drewN ?_ _) | (with_reducible refine Kd.C_drew ?_))); (case side4 => exact (Kd.R_reads' HO_337005.out).2.1); rintro e w60 ⟨rfl, hb⟩; have n0_ := Aside0.mk (Kd.R_below (by (with_reducible repeat (first | apply Kd.R_alloc | apply Kd.R_drewN | apply Kd.R_drew)); exact HO_327005.out) hb); have n1_ := Aside0.mk (Kd.R_below (by (with_reducible repeat (first | apply Kd.R_alloc | apply Kd.R_drewN | apply Kd.R_drew)); exact HO_337005.out) hb); have n2_ := Aside0.mk (blk_below (g := gb311) (o := .cells #[.int .i64 a0_0, .int .i64 a0_1, .int .i64 a0_2, .bool a0_3, .int .i64 a0_4, .slice A0_5 l0_5.length c0_5] 24 (0, 0)) (by (with_reducible repeat (first | refine blk_drewN ?_ _ | refine blk_drew ?_ | refine blk_alloc ?_ _)); exact BK311.out) hb); have n3_ := Aside0.mk (blk_below (g := gb326) (o := .cells #[.int .i64 t317, .int .i64 t318, .int .i64 t319, .bool t320, .int .i64 t321, .slice Ao20 t322.length co20] 24 (0, 0)) (by (with_reducible repeat (first | refine blk_drewN ?_ _ | refine blk_drew ?_ | refine blk_alloc ?_ _)); exact BK326.out) hb); have n4_ := Aside0.mk (blk_below (g := gb336) (o := .cells #[.int .i64 t327, .int .i64 t328, .int .i64 t329, .bool t330, .int .i64 t331, .slice Ao26 t332.length co26] 24 (0, 0)) (by (with_reducible repeat (first | refine blk_drewN ?_ _ | refine blk_drew ?_ | refine blk_alloc ?_ _)); exact BK336.out) hb); have n5_ := Aside0.mk (below_step (by repeat (first | (with_reducible first | exact HB.out | apply below_alloc | apply pw_below_drewN | apply below_drew1 | refine below_set ?_ GE311.out | refine below_set ?_ GE326.out | refine below_set ?_ GE336.out) | exact HB.out)) hb); clear HO_327005; clear HO_337005; clear BK311; clear BK326; clear BK336; clear HB; have HO_327005 := n0_; have HO_337005 := n1_; have BK311 := n2_; have BK326 := n3_; have BK336 := n4_; have HB := n5_; clear n0_ n1_ n2_ n3_ n4_ n5_; (try clear hb); (try clear hb2); (try clear hk); (try clear hi)))
              go_ret
              exact ⟨by first | rfl | (simp [errW_none, errW_some] <;> rfl) | (simp [*, errW_none, errW_some] <;> rfl), by repeat (first | (with_reducible first | exact HB.out | apply below_alloc | apply pw_below_drewN | apply below_drew1 | refine below_set ?_ GE311.out | refine below_set ?_ GE326.out | refine below_set ?_ GE336.out) | exact HB.out)⟩
            replace c54 := Bool.eq_false_iff.mpr c54
            subst c54
            have H1 : (if a2 < 0 then (some true) else (some (decide (a2 > 1048576)))) = some r := by rw [if_neg (show ¬ (false = true) by decide)] at H; exact H
            clear H
            have H := H1
            clear H1
            by_cases c61 : a2 < 0
            · rw [if_pos c61] at H
              have c61b0 : decide (a2 < 0) = true := decide_eq_true c61
              clear c61
              obtain rfl := Option.some.inj H
              have hnb62 := NB311_326.out
              have hnc62 := NB326_311.out
              have hnb63 := NB311_336.out
              have hnc63 := NB336_311.out
              have hcz64_0 : wc.cell? ⟨gb311, 0, none⟩ = some (.int .i64 a0_0) := (blk_cell BK311.out 0).trans rfl
              have hcz64_1 : wc.cell? ⟨gb311, 1, none⟩ = some (.int .i64 a0_1) := (blk_cell BK311.out 1).trans rfl
              have hcz64_2 : wc.cell? ⟨gb311, 2, none⟩ = some (.int .i64 a0_2) := (blk_cell BK311.out 2).trans rfl
              have hcz64_3 : wc.cell? ⟨gb311, 3, none⟩ = some (.bool a0_3) := (blk_cell BK311.out 3).trans rfl
              have hcz64_4 : wc.cell? ⟨gb311, 4, none⟩ = some (.int .i64 a0_4) := (blk_cell BK311.out 4).trans rfl
              have hcz64_5 : wc.cell? ⟨gb311, 5, none⟩ = some (.slice A0_5 l0_5.length c0_5) := (blk_cell BK311.out 5).trans rfl
              have hfz64_0 := blk_frozen BK311.out 0
              have hfz64_1 := blk_frozen BK311.out 1
              have hfz64_2 := blk_frozen BK311.out 2
              have hfz64_3 := blk_frozen BK311.out 3
              have hfz64_4 := blk_frozen BK311.out 4
              have hfz64_5 := blk_frozen BK311.out 5
              have hnb65 := NB336_326.out
              have hnc65 := NB326_336.out
              have hcz66_0 : wc.cell? ⟨gb336, 0, none⟩ = some (.int .i64 t327) := (blk_cell BK336.out 0).trans rfl
              have hcz66_1 : wc.cell? ⟨gb336, 1, none⟩ = some (.int .i64 t328) := (blk_cell BK336.out 1).trans rfl
              have hcz66_2 : wc.cell? ⟨gb336, 2, none⟩ = some (.int .i64 t329) := (blk_cell BK336.out 2).trans rfl
              have hcz66_3 : wc.cell? ⟨gb336, 3, none⟩ = some (.bool t330) := (blk_cell BK336.out 3).trans rfl
              have hcz66_4 : wc.cell? ⟨gb336, 4, none⟩ = some (.int .i64 t331) := (blk_cell BK336.out 4).trans rfl
              have hcz66_5 : wc.cell? ⟨gb336, 5, none⟩ = some (.slice Ao26 t332.length co26) := (blk_cell BK336.out 5).trans rfl
              have hfz66_0 := blk_frozen BK336.out 0
              have hfz66_1 := blk_frozen BK336.out 1
              have hfz66_2 := blk_frozen BK336.out 2
              have hfz66_3 := blk_frozen BK336.out 3
              have hfz66_4 := blk_frozen BK336.out 4
              have hfz66_5 := blk_frozen BK336.out 5
              go_wp2_with (first | (go_at_call 14; (with_reducible refine (undercroftref09_Same.calls a0_0 a0_1 a0_2 a0_3 a0_4 _ _ l0_5 t327 t328 t329 t330 t331 _ _ t332 false _ ?side1 ?side2 ?side3 ?side4 A53.out).mono ?_); (case side1 => repeat (first | exact (Kd.C_below HR0_5.out HB.out) | (with_reducible refine Kd.C_alloc ?_ _) | (with_reducible refine Kd.C_drewN ?_ _) | (with_reducible refine Kd.C_drew ?_))); (case side2 => exact HC0_5.out); (case side3 => repeat (first | exact (Kd.R_reads' HO_337005.out).2.2 | (with_reducible refine Kd.C_alloc ?_ _) | (with_reducible refine Kd.C_drewN ?_ _) | (with_reducible refine Kd.C_drew ?_))); (case side4 => exact (Kd.R_reads' HO_337005.out).2.1); rintro e w67 ⟨rfl, hb⟩; have n0_ := Aside0.mk (Kd.R_below (by (with_reducible repeat (first | apply Kd.R_alloc | apply Kd.R_drewN | apply Kd.R_drew)); exact HO_327005.out) hb); have n1_ := Aside0.mk (Kd.R_below (by (with_reducible repeat (first | apply Kd.R_alloc | apply Kd.R_drewN | apply Kd.R_drew)); exact HO_337005.out) hb); have n2_ := Aside0.mk (blk_below (g := gb311) (o := .cells #[.int .i64 a0_0, .int .i64 a0_1, .int .i64 a0_2, .bool a0_3, .int .i64 a0_4, .slice A0_5 l0_5.length c0_5] 24 (0, 0)) (by (with_reducible repeat (first | refine blk_drewN ?_ _ | refine blk_drew ?_ | refine blk_alloc ?_ _)); exact BK311.out) hb); have n3_ := Aside0.mk (blk_below (g := gb326) (o := .cells #[.int .i64 t317, .int .i64 t318, .int .i64 t319, .bool t320, .int .i64 t321, .slice Ao20 t322.length co20] 24 (0, 0)) (by (with_reducible repeat (first | refine blk_drewN ?_ _ | refine blk_drew ?_ | refine blk_alloc ?_ _)); exact BK326.out) hb); have n4_ := Aside0.mk (blk_below (g := gb336) (o := .cells #[.int .i64 t327, .int .i64 t328, .int .i64 t329, .bool t330, .int .i64 t331, .slice Ao26 t332.length co26] 24 (0, 0)) (by (with_reducible repeat (first | refine blk_drewN ?_ _ | refine blk_drew ?_ | refine blk_alloc ?_ _)); exact BK336.out) hb); have n5_ := Aside0.mk (below_step (by repeat (first | (with_reducible first | exact HB.out | apply below_alloc | apply pw_below_drewN | apply below_drew1 | refine below_set ?_ GE311.out | refine below_set ?_ GE326.out | refine below_set ?_ GE336.out) | exact HB.out)) hb); clear HO_327005; clear HO_337005; clear BK311; clear BK326; clear BK336; clear HB; have HO_327005 := n0_; have HO_337005 := n1_; have BK311 := n2_; have BK326 := n3_; have BK336 := n4_; have HB := n5_; clear n0_ n1_ n2_ n3_ n4_ n5_; (try clear hb); (try clear hb2); (try clear hk); (try clear hi)))
              go_ret
              exact ⟨by first | rfl | (simp [errW_none, errW_some] <;> rfl) | (simp [*, errW_none, errW_some] <;> rfl), by repeat (first | (with_reducible first | exact HB.out | apply below_alloc | apply pw_below_drewN | apply below_drew1 | refine below_set ?_ GE311.out | refine below_set ?_ GE326.out | refine below_set ?_ GE336.out) | exact HB.out)⟩
            rw [if_neg c61] at H
            have c61b0 : decide (a2 < 0) = false := decide_eq_false c61
            clear c61
            obtain rfl := Option.some.inj H
            have hnb68 := NB311_326.out
            have hnc68 := NB326_311.out
            have hnb69 := NB311_336.out
            have hnc69 := NB336_311.out
            have hcz70_0 : wc.cell? ⟨gb311, 0, none⟩ = some (.int .i64 a0_0) := (blk_cell BK311.out 0).trans rfl
            have hcz70_1 : wc.cell? ⟨gb311, 1, none⟩ = some (.int .i64 a0_1) := (blk_cell BK311.out 1).trans rfl
            have hcz70_2 : wc.cell? ⟨gb311, 2, none⟩ = some (.int .i64 a0_2) := (blk_cell BK311.out 2).trans rfl
            have hcz70_3 : wc.cell? ⟨gb311, 3, none⟩ = some (.bool a0_3) := (blk_cell BK311.out 3).trans rfl
            have hcz70_4 : wc.cell? ⟨gb311, 4, none⟩ = some (.int .i64 a0_4) := (blk_cell BK311.out 4).trans rfl
            have hcz70_5 : wc.cell? ⟨gb311, 5, none⟩ = some (.slice A0_5 l0_5.length c0_5) := (blk_cell BK311.out 5).trans rfl
            have hfz70_0 := blk_frozen BK311.out 0
            have hfz70_1 := blk_frozen BK311.out 1
            have hfz70_2 := blk_frozen BK311.out 2
            have hfz70_3 := blk_frozen BK311.out 3
            have hfz70_4 := blk_frozen BK311.out 4
            have hfz70_5 := blk_frozen BK311.out 5
            have hnb71 := NB336_326.out
            have hnc71 := NB326_336.out
            have hcz72_0 : wc.cell? ⟨gb336, 0, none⟩ = some (.int .i64 t327) := (blk_cell BK336.out 0).trans rfl
            have hcz72_1 : wc.cell? ⟨gb336, 1, none⟩ = some (.int .i64 t328) := (blk_cell BK336.out 1).trans rfl
            have hcz72_2 : wc.cell? ⟨gb336, 2, none⟩ = some (.int .i64 t329) := (blk_cell BK336.out 2).trans rfl
            have hcz72_3 : wc.cell? ⟨gb336, 3, none⟩ = some (.bool t330) := (blk_cell BK336.out 3).trans rfl
            have hcz72_4 : wc.cell? ⟨gb336, 4, none⟩ = some (.int .i64 t331) := (blk_cell BK336.out 4).trans rfl
            have hcz72_5 : wc.cell? ⟨gb336, 5, none⟩ = some (.slice Ao26 t332.length co26) := (blk_cell BK336.out 5).trans rfl
            have hfz72_0 := blk_frozen BK336.out 0
            have hfz72_1 := blk_frozen BK336.out 1
            have hfz72_2 := blk_frozen BK336.out 2
            have hfz72_3 := blk_frozen BK336.out 3
            have hfz72_4 := blk_frozen BK336.out 4
            have hfz72_5 := blk_frozen BK336.out 5
            go_wp2_with (first | (go_at_call 14; (with_reducible refine (undercroftref09_Same.calls a0_0 a0_1 a0_2 a0_3 a0_4 _ _ l0_5 t327 t328 t329 t330 t331 _ _ t332 false _ ?side1 ?side2 ?side3 ?side4 A53.out).mono ?_); (case side1 => repeat (first | exact (Kd.C_below HR0_5.out HB.out) | (with_reducible refine Kd.C_alloc ?_ _) | (with_reducible refine Kd.C_drewN ?_ _) | (with_reducible refine Kd.C_drew ?_))); (case side2 => exact HC0_5.out); (case side3 => repeat (first | exact (Kd.R_reads' HO_337005.out).2.2 | (with_reducible refine Kd.C_alloc ?_ _) | (with_reducible refine Kd.C_drewN ?_ _) | (with_reducible refine Kd.C_drew ?_))); (case side4 => exact (Kd.R_reads' HO_337005.out).2.1); rintro e w73 ⟨rfl, hb⟩; have n0_ := Aside0.mk (Kd.R_below (by (with_reducible repeat (first | apply Kd.R_alloc | apply Kd.R_drewN | apply Kd.R_drew)); exact HO_327005.out) hb); have n1_ := Aside0.mk (Kd.R_below (by (with_reducible repeat (first | apply Kd.R_alloc | apply Kd.R_drewN | apply Kd.R_drew)); exact HO_337005.out) hb); have n2_ := Aside0.mk (blk_below (g := gb311) (o := .cells #[.int .i64 a0_0, .int .i64 a0_1, .int .i64 a0_2, .bool a0_3, .int .i64 a0_4, .slice A0_5 l0_5.length c0_5] 24 (0, 0)) (by (with_reducible repeat (first | refine blk_drewN ?_ _ | refine blk_drew ?_ | refine blk_alloc ?_ _)); exact BK311.out) hb); have n3_ := Aside0.mk (blk_below (g := gb326) (o := .cells #[.int .i64 t317, .int .i64 t318, .int .i64 t319, .bool t320, .int .i64 t321, .slice Ao20 t322.length co20] 24 (0, 0)) (by (with_reducible repeat (first | refine blk_drewN ?_ _ | refine blk_drew ?_ | refine blk_alloc ?_ _)); exact BK326.out) hb); have n4_ := Aside0.mk (blk_below (g := gb336) (o := .cells #[.int .i64 t327, .int .i64 t328, .int .i64 t329, .bool t330, .int .i64 t331, .slice Ao26 t332.length co26] 24 (0, 0)) (by (with_reducible repeat (first | refine blk_drewN ?_ _ | refine blk_drew ?_ | refine blk_alloc ?_ _)); exact BK336.out) hb); have n5_ := Aside0.mk (below_step (by repeat (first | (with_reducible first | exact HB.out | apply below_alloc | apply pw_below_drewN | apply below_drew1 | refine below_set ?_ GE311.out | refine below_set ?_ GE326.out | refine below_set ?_ GE336.out) | exact HB.out)) hb); clear HO_327005; clear HO_337005; clear BK311; clear BK326; clear BK336; clear HB; have HO_327005 := n0_; have HO_337005 := n1_; have BK311 := n2_; have BK326 := n3_; have BK336 := n4_; have HB := n5_; clear n0_ n1_ n2_ n3_ n4_ n5_; (try clear hb); (try clear hb2); (try clear hk); (try clear hi)))
            go_ret
            exact ⟨by first | rfl | (simp [errW_none, errW_some] <;> rfl) | (simp [*, errW_none, errW_some] <;> rfl), by repeat (first | (with_reducible first | exact HB.out | apply below_alloc | apply pw_below_drewN | apply below_drew1 | refine below_set ?_ GE311.out | refine below_set ?_ GE326.out | refine below_set ?_ GE336.out) | exact HB.out)⟩
  · replace c5 := Bool.eq_false_iff.mpr c5
    subst c5
    have H1 : (some false) = some r := by rw [if_neg (show ¬ (false = true) by decide)] at H; exact H
    clear H
    have H := H1
    clear H1
    exact absurd (Option.some.inj H) (by rw [hT]; decide)

end Go.Proofs.Ytkpkmkgmpggjaaa.U
