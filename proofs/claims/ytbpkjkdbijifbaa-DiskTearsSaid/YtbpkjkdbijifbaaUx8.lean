/- Written by uprint.py (ours) for this seat: functions of the translation as Lean functions, and what their calls do. Not trusted: Lean checks it. -/
import Derived.Test.YtbpkjkdbijifbaaUx0
import Derived.Test.YtbpkjkdbijifbaaUx1
import Derived.Test.YtbpkjkdbijifbaaUx6
import Derived.Test.YtbpkjkdbijifbaaUx16
namespace Go.Proofs.Ytbpkjkdbijifbaa.U
open Go.RowKit Go.Proofs.YtbpkjkdbijifbaaW.PrintWords Go.Proofs.YtbpkjkdbijifbaaW.PrintLast Go.Proofs.YtbpkjkdbijifbaaW.PrintMore
attribute [local go_sem] max2_int min2_int max_two min_two max_three min_three max_four min_four   -- for this text's walks alone
set_option linter.unusedVariables false
set_option linter.unusedSimpArgs false

/-! ### undercroftlaw02_DiskTears: function 3 (given) -/
theorem blk_other {w : World} {g g' : Nat} {cs : Array Value} {t : TypeId} (h : X.Blk w g cs t) (hne : g ≠ g') (i : Nat) (u : Value) : X.Blk (w.setCell ⟨g', i, none⟩ u) g cs t := ((X.Turn.setCell w ⟨g', i, none⟩ u).block g h.lt (fun e => hne e)).trans h
theorem blk_alloc2 {w : World} {g : Nat} {cs : Array Value} {t : TypeId} (h : X.Blk w g cs t) (o : Obj) : X.Blk (w.alloc o) g cs t := h.below ((Below.refl (g + 1) w).alloc h.lt o) (Nat.lt_succ_self g)
theorem data_0 (a0_0 : Int) (a0_1 : Int) (a0_2 : Int) (A0_4 : Option Addr) (c0_4 : Nat) (l0_4 : List Int) (w : World) (hr0_4 : Kd.C (Kd.int .u8) w A0_4 l0_4.length l0_4) (hc0_4 : l0_4.length ≤ c0_4) :
    Calls Try.prog 13 #[.agg #[.int .i64 a0_0, .int .i64 a0_1, .int .u8 a0_2, .bool false, .slice A0_4 l0_4.length c0_4]] w fun e w' => ∃ g c, e = .returned (.slice (some ⟨g, 0, none⟩) 256 c) ∧ w.heap.size ≤ g ∧ g < w'.heap.size ∧ 256 ≤ c ∧ (Kd.int .u8).C w' (some ⟨g, 0, none⟩) 256 (dataL a0_2 256) ∧ Below w.heap.size w w' :=
  data_c a0_0 a0_1 a0_2 false A0_4 c0_4 l0_4 w hr0_4 hc0_4
theorem write_ok (base : Nat) (w : World) (p n i : Nat) (s : X.DS) (O : Nat → Prop) (g c : Nat) (xs : List Int) (h : Has base w p n s O) (hbase : base ≤ w.heap.size) (hi : i < n) (hC : (Kd.int .u8).C w (some ⟨g, 0, none⟩) 256 xs) (hc : 256 ≤ c) (hu : X.u8all xs = true) (hg : ¬ O g ∧ g < w.heap.size) (hpl : s.pend.length ≤ 500000000000) :
    Calls Try.prog 14 #[.pointer (some ⟨p, 0, none⟩), .int .i64 (i : Int), .slice (some ⟨g, 0, none⟩) 256 c] w fun e w' => e = .returned (.int .i64 0) ∧ Step base w w' p n (s.write i xs) O := by
  have hl : xs.length = 256 := hC.1
  have hb : hasB (i : Int) n = true := decide_eq_true ⟨by omega, by omega⟩
  have h2 := write_h base w p n s O i (some ⟨g, 0, none⟩) c xs h hbase (by rw [hl]; exact hC) (by rw [hl]; exact hc) hu (fun ad e => by cases e; exact ⟨⟨_, _, rfl⟩, hg⟩) hpl
  rw [hl] at h2
  unfold putE put at h2
  rw [if_pos hb, if_pos rfl, if_pos ⟨hb, hl⟩, Int.toNat_natCast] at h2
  exact h2
/-- Two disks and two rows, none of which another one holds. -/
structure Pair (base : Nat) (w : World) (p q : Nat) (s t : X.DS) (O P : Nat → Prop) (ga gb : Nat) (a b : List Int) : Prop where
  D : Has base w p 1 s O
  E : Has base w q 1 t P
  dis : ∀ k, O k → ¬ P k
  na : ¬ O ga ∧ ¬ P ga ∧ ga < w.heap.size
  nb : ¬ O gb ∧ ¬ P gb ∧ gb < w.heap.size
  ca : (Kd.int .u8).C w (some ⟨ga, 0, none⟩) 256 a
  cb : (Kd.int .u8).C w (some ⟨gb, 0, none⟩) 256 b
theorem Pair.stepD {base : Nat} {w w' : World} {p q : Nat} {s t s' : X.DS} {O P : Nat → Prop} {ga gb : Nat} {a b : List Int} (h : Pair base w p q s t O P ga gb a b) (st : Step base w w' p 1 s' O) : ∃ O', Pair base w' p q s' t O' P ga gb a b :=
  ⟨fun k => O k ∨ (w.heap.size ≤ k ∧ k < w'.heap.size), {
    D := st.has
    E := h.E.turn st.turn (fun k hk => h.dis k hk)
    dis := fun k hk hp => hk.elim (fun h' => h.dis k h' hp) (fun h' => absurd (h.E.hi k hp) (by omega))
    na := ⟨fun hk => hk.elim h.na.1 (fun h' => absurd h.na.2.2 (by omega)), h.na.2.1, Nat.lt_of_lt_of_le h.na.2.2 st.turn.size⟩
    nb := ⟨fun hk => hk.elim h.nb.1 (fun h' => absurd h.nb.2.2 (by omega)), h.nb.2.1, Nat.lt_of_lt_of_le h.nb.2.2 st.turn.size⟩
    ca := X.C_turn h.ca (fun ad e => by cases e; exact ⟨h.na.1, h.na.2.2⟩) st.turn
    cb := X.C_turn h.cb (fun ad e => by cases e; exact ⟨h.nb.1, h.nb.2.2⟩) st.turn }⟩
theorem Pair.swap {base : Nat} {w : World} {p q : Nat} {s t : X.DS} {O P : Nat → Prop} {ga gb : Nat} {a b : List Int} (h : Pair base w p q s t O P ga gb a b) : Pair base w q p t s P O ga gb a b :=
  ⟨h.E, h.D, fun k hk hp => h.dis k hp hk, ⟨h.na.2.1, h.na.1, h.na.2.2⟩, ⟨h.nb.2.1, h.nb.1, h.nb.2.2⟩, h.ca, h.cb⟩
theorem Pair.below {base : Nat} {w w' : World} {p q : Nat} {s t : X.DS} {O P : Nat → Prop} {ga gb : Nat} {a b : List Int} (h : Pair base w p q s t O P ga gb a b) (hb : Below w.heap.size w w') : Pair base w' p q s t O P ga gb a b :=
  ⟨h.D.below hb, h.E.below hb, h.dis, ⟨h.na.1, h.na.2.1, Nat.lt_of_lt_of_le h.na.2.2 hb.size⟩, ⟨h.nb.1, h.nb.2.1, Nat.lt_of_lt_of_le h.nb.2.2 hb.size⟩, Kd.C_below h.ca hb, Kd.C_below h.cb hb⟩
def zeros64 : List Int := List.replicate 64 0
theorem make64 (w : World) : ∃ w2 : World, (Instr.makeSlice 22 (.int .i64 64) (.int .i64 64)).run Try.prog w = .ok (.slice (some ⟨w.heap.size, 0, none⟩) 64 64) w2 ∧ Below w.heap.size w w2 ∧ (convert 22 9 (.slice (some ⟨w.heap.size, 0, none⟩) 64 64)).run Try.prog w2 = .ok (.string (strOfNums zeros64)) w2 := by
  obtain ⟨i0, hi, hz0, hz1, hz2⟩ := info_parts info5
  have hr := run_makeSlice (P := Try.prog) (w := w) 22 5 i0 (.int .u8 0) Try.underlying22 hi hz0 .i64 .i64 64 64 (by decide) (by decide) (by rw [hz1]; decide) (by rw [hz2]; decide) (by decide)
  refine ⟨_, hr, (Below.refl _ _).alloc (Nat.le_refl _) _, ?_⟩
  refine Kd.C_string (P := Try.prog) Try.underlying22 Try.underlying5 Try.underlying9 ?_
  exact X.C_new (xs := List.replicate 64 0) (by rw [hz1]; kernel_rfl) (by decide)
theorem str_C {w : World} {g n c : Nat} {xs : List Int} (h : (Kd.int .u8).C w (some ⟨g, 0, none⟩) n xs) : (convert 22 9 (.slice (some ⟨g, 0, none⟩) n c)).run Try.prog w = .ok (.string (strOfNums xs)) w :=
  Kd.C_string (P := Try.prog) Try.underlying22 Try.underlying5 Try.underlying9 h
theorem conv_exec {P : Program} {w : World} {oi : Oper} {ρ : Operand → Value} {s t : TypeId} (x : Operand) (ho : oi.op = .convert s t x) (v u : Value) (hx : ρ x = v) (hb : (convert s t v).run P w = .ok u w) : (execOp ρ oi).run P w = .ok (.value u) w := by
  unfold execOp
  simp only [ho, hx, Sem.run_bind, Sem.run_pure, Result.andThen_ok, hb]
theorem c_lt {w : World} {ad : Addr} {xs : List Int} (h : (Kd.int .u8).C w (some ad) xs.length xs) (h0 : 0 < xs.length) : ad.block < w.heap.size := by
  have hj : (xs.map (Value.int .u8))[0]? = some (.int .u8 (xs[0])) := by rw [List.getElem?_map, List.getElem?_eq_getElem h0]; rfl
  have := X.C_cells h 0 _ hj
  exact block_lt_of_cell this
def undercroftlaw02_DiskTears.f (a0_0 a0_1 a0_2 : Int) (a0_3 : Bool) (l0_4 : List Int) (a1_0 a1_1 a1_2 : Int) (a1_3 : Bool) (l1_4 : List Int) (l2 : List Int) : Option Bool := some true
set_option maxHeartbeats 4000000 in
set_option maxRecDepth 100000 in
theorem undercroftlaw02_DiskTears.calls (a0_0 : Int) (a0_1 : Int) (a0_2 : Int) (a0_3 : Bool) (A0_4 : Option Addr) (c0_4 : Nat) (l0_4 : List Int) (a1_0 : Int) (a1_1 : Int) (a1_2 : Int) (a1_3 : Bool) (A1_4 : Option Addr) (c1_4 : Nat) (l1_4 : List Int) (A2 : Option Addr) (c2 : Nat) (l2 : List Int) (r : Bool) (w : World)
    (hr0_4 : Kd.C (Kd.int .u8) w A0_4 l0_4.length l0_4) (hc0_4 : l0_4.length ≤ c0_4) (hr1_4 : Kd.C (Kd.int .u8) w A1_4 l1_4.length l1_4) (hc1_4 : l1_4.length ≤ c1_4) (hr2 : Kd.C (Kd.int .u8) w A2 l2.length l2) (hc2 : l2.length ≤ c2) (h : undercroftlaw02_DiskTears.f a0_0 a0_1 a0_2 a0_3 l0_4 a1_0 a1_1 a1_2 a1_3 l1_4 l2 = some r) :
    Calls Try.prog 3 #[.agg #[.int .i64 a0_0, .int .i64 a0_1, .int .u8 a0_2, .bool a0_3, .slice A0_4 l0_4.length c0_4], .agg #[.int .i64 a1_0, .int .i64 a1_1, .int .u8 a1_2, .bool a1_3, .slice A1_4 l1_4.length c1_4], .slice A2 l2.length c2] w fun e w' => e = .returned (.bool r) ∧ Below w.heap.size w w' := by
  obtain rfl := Option.some.inj h
  clear h
  have HR0 : Aside0 (∀ w', Below w.heap.size w w' → Kd.C (Kd.int .u8) w' A0_4 l0_4.length l0_4) := ⟨fun w' hb => Kd.C_below hr0_4 hb⟩
  have HR1 : Aside0 (∀ w', Below w.heap.size w w' → Kd.C (Kd.int .u8) w' A1_4 l1_4.length l1_4) := ⟨fun w' hb => Kd.C_below hr1_4 hb⟩
  have HR2 : Aside0 (∀ w', Below w.heap.size w w' → Kd.C (Kd.int .u8) w' A2 l2.length l2) := ⟨fun w' hb => Kd.C_below hr2 hb⟩
  have HA2 : Aside0 (∀ ad, A2 = some ad → 0 < l2.length → ad.block < w.heap.size) := ⟨fun ad e h0 => by subst e; exact c_lt hr2 h0⟩
  have HC0 := Aside0.mk hc0_4
  have HC1 := Aside0.mk hc1_4
  have HC2 := Aside0.mk hc2
  clear hr0_4 hc0_4 hr1_4 hc1_4 hr2 hc2
  go_enter Try.func3, Try.ntmps3
  go_wp2_with fail
  have HY0 := Aside0.mk (X.Blk.new (w.alloc (.cells #[.int .i64 a0_0, .int .i64 a0_1, .int .u8 a0_2, .bool a0_3, .slice A0_4 l0_4.length c0_4] 24)) #[.int .i64 a1_0, .int .i64 a1_1, .int .u8 a1_2, .bool a1_3, .slice A1_4 l1_4.length c1_4] 24)
  have HX0 := Aside0.mk (blk_alloc2 (X.Blk.new w #[.int .i64 a0_0, .int .i64 a0_1, .int .u8 a0_2, .bool a0_3, .slice A0_4 l0_4.length c0_4] 24) (.cells #[.int .i64 a1_0, .int .i64 a1_1, .int .u8 a1_2, .bool a1_3, .slice A1_4 l1_4.length c1_4] 24))
  have HB0 : Aside0 (Below w.heap.size w ((w.alloc (.cells #[.int .i64 a0_0, .int .i64 a0_1, .int .u8 a0_2, .bool a0_3, .slice A0_4 l0_4.length c0_4] 24)).alloc (.cells #[.int .i64 a1_0, .int .i64 a1_1, .int .u8 a1_2, .bool a1_3, .slice A1_4 l1_4.length c1_4] 24))) := ⟨((Below.refl _ _).alloc (Nat.le_refl _) _).alloc (by simp) _⟩
  have HY0 : Aside0 (X.Blk ((w.alloc (.cells #[.int .i64 a0_0, .int .i64 a0_1, .int .u8 a0_2, .bool a0_3, .slice A0_4 l0_4.length c0_4] 24)).alloc (.cells #[.int .i64 a1_0, .int .i64 a1_1, .int .u8 a1_2, .bool a1_3, .slice A1_4 l1_4.length c1_4] 24)) (w.heap.size + 1) #[.int .i64 a1_0, .int .i64 a1_1, .int .u8 a1_2, .bool a1_3, .slice A1_4 l1_4.length c1_4] 24) := ⟨by have := HY0.out; simpa using this⟩
  obtain ⟨g0, hg0⟩ : ∃ g0, g0 = w.heap.size := ⟨_, rfl⟩
  have HG0 : Aside0 (w.heap.size ≤ g0) := ⟨by omega⟩
  rw [← hg0] at HX0 HY0 ⊢
  clear hg0
  generalize (w.alloc (.cells #[.int .i64 a0_0, .int .i64 a0_1, .int .u8 a0_2, .bool a0_3, .slice A0_4 l0_4.length c0_4] 24)).alloc (.cells #[.int .i64 a1_0, .int .i64 a1_1, .int .u8 a1_2, .bool a1_3, .slice A1_4 l1_4.length c1_4] 24) = w0 at *
  refine (undercroftlaw02_alive.calls true w0 rfl).mono ?_
  rintro e w1 ⟨rfl, hb1⟩
  have HX1 := Aside0.mk (HX0.out.below hb1 HX0.out.lt)
  have HY1 := Aside0.mk (HY0.out.below hb1 HY0.out.lt)
  have HB1 := Aside0.mk (HB0.out.trans (hb1.mono HB0.out.size))
  clear hb1 HX0 HY0 HB0
  go_wp2_with fail
  refine (new_h w.heap.size 1 w1 HB1.out.size (by decide) (by decide)).mono ?_
  rintro e w2 ⟨p, rfl, hd, hb2⟩
  have HD2 := Aside0.mk hd
  have HX2 := Aside0.mk (HX1.out.below hb2 HX1.out.lt)
  have HY2 := Aside0.mk (HY1.out.below hb2 HY1.out.lt)
  have HB2 := Aside0.mk (HB1.out.trans (hb2.mono HB1.out.size))
  have HO2 : Aside0 (∀ k, (w1.heap.size ≤ k ∧ k < w2.heap.size) → k ≠ g0 ∧ k ≠ g0 + 1 ∧ k < w2.heap.size) := ⟨fun k hk => ⟨by have := HX1.out.lt; omega, by have := HY1.out.lt; omega, hk.2⟩⟩
  have HLT : Aside0 (g0 < w1.heap.size ∧ g0 + 1 < w1.heap.size) := ⟨HX1.out.lt, HY1.out.lt⟩
  clear hd hb2 HX1 HY1 HB1
  obtain ⟨O2, hO2⟩ : ∃ O2 : Nat → Prop, O2 = fun k => w1.heap.size ≤ k ∧ k < w2.heap.size := ⟨_, rfl⟩
  have HO2 : Aside0 (∀ k, O2 k → k ≠ g0 ∧ k ≠ g0 + 1 ∧ k < w2.heap.size) := ⟨fun k hk => HO2.out k (by rw [hO2] at hk; exact hk)⟩
  rw [← hO2] at HD2
  clear hO2
  go_wp2_with fail
  refine (new_h w.heap.size 1 w2 HB2.out.size (by decide) (by decide)).mono ?_
  rintro e w3 ⟨q, rfl, hd, hb3⟩
  have HE3 := Aside0.mk hd
  have HD3 := Aside0.mk (HD2.out.below hb3)
  have HX3 := Aside0.mk (HX2.out.below hb3 HX2.out.lt)
  have HY3 := Aside0.mk (HY2.out.below hb3 HY2.out.lt)
  have HB3 := Aside0.mk (HB2.out.trans (hb3.mono HB2.out.size))
  have HLT2 : Aside0 (g0 < w2.heap.size ∧ g0 + 1 < w2.heap.size) := ⟨HX2.out.lt, HY2.out.lt⟩
  have HOP : Aside0 (∀ k, (w2.heap.size ≤ k ∧ k < w3.heap.size) → k ≠ g0 ∧ k ≠ g0 + 1 ∧ ¬ O2 k) := ⟨fun k hk => ⟨by have := HLT2.out.1; omega, by have := HLT2.out.2; omega, fun h => absurd (HO2.out k h).2.2 (by omega)⟩⟩
  obtain ⟨P2, hP2⟩ : ∃ P2 : Nat → Prop, P2 = fun k => w2.heap.size ≤ k ∧ k < w3.heap.size := ⟨_, rfl⟩
  have HOP : Aside0 (∀ k, P2 k → k ≠ g0 ∧ k ≠ g0 + 1 ∧ ¬ O2 k) := ⟨fun k hk => HOP.out k (by rw [hP2] at hk; exact hk)⟩
  rw [← hP2] at HE3
  clear hP2 hd hb3 HD2 HX2 HY2 HB2
  have x3_ := HX3.out.cell 3 _ rfl
  have f3_ := HX3.out.free 3
  have y3_ := (blk_other HY3.out (Nat.ne_of_gt (Nat.lt_succ_self g0)) 3 (.bool false)).cell 3 _ rfl
  have e3_ := (blk_other HY3.out (Nat.ne_of_gt (Nat.lt_succ_self g0)) 3 (.bool false)).free 3
  go_wp2_with fail
  have HX4 : Aside0 (X.Blk ((w3.setCell ⟨g0, 3, none⟩ (.bool false)).setCell ⟨g0 + 1, 3, none⟩ (.bool false)) g0 #[.int .i64 a0_0, .int .i64 a0_1, .int .u8 a0_2, .bool false, .slice A0_4 l0_4.length c0_4] 24) := ⟨blk_other (HX3.out.set 3 (.bool false)) (Nat.ne_of_lt (Nat.lt_succ_self g0)) 3 (.bool false)⟩
  have HY4 : Aside0 (X.Blk ((w3.setCell ⟨g0, 3, none⟩ (.bool false)).setCell ⟨g0 + 1, 3, none⟩ (.bool false)) (g0 + 1) #[.int .i64 a1_0, .int .i64 a1_1, .int .u8 a1_2, .bool false, .slice A1_4 l1_4.length c1_4] 24) := ⟨(blk_other HY3.out (Nat.ne_of_gt (Nat.lt_succ_self g0)) 3 (.bool false)).set 3 (.bool false)⟩
  have HD4 := Aside0.mk ((HD3.out.turn (X.Turn.setCell w3 ⟨g0, 3, none⟩ (.bool false)) (fun k hk h => (HO2.out k h).1 hk)).turn (X.Turn.setCell _ ⟨g0 + 1, 3, none⟩ (.bool false)) (fun k hk h => (HO2.out k h).2.1 hk))
  have HE4 := Aside0.mk ((HE3.out.turn (X.Turn.setCell w3 ⟨g0, 3, none⟩ (.bool false)) (fun k hk h => (HOP.out k h).1 hk)).turn (X.Turn.setCell _ ⟨g0 + 1, 3, none⟩ (.bool false)) (fun k hk h => (HOP.out k h).2.1 hk))
  have HB4 := Aside0.mk ((HB3.out.setCell (p := ⟨g0, 3, none⟩) HG0.out (.bool false)).setCell (p := ⟨g0 + 1, 3, none⟩) (Nat.le_trans HG0.out (Nat.le_succ _)) (.bool false))
  clear x3_ f3_ y3_ e3_ HX3 HY3 HD3 HE3 HB3
  generalize ((w3.setCell ⟨g0, 3, none⟩ (.bool false)).setCell ⟨g0 + 1, 3, none⟩ (.bool false)) = w4 at *
  refine start_ (n := 6) (S := (fun w' => X.Blk w' g0 #[.int .i64 a0_0, .int .i64 a0_1, .int .u8 a0_2, .bool false, .slice A0_4 l0_4.length c0_4] 24 ∧ X.Blk w' (g0 + 1) #[.int .i64 a1_0, .int .i64 a1_1, .int .u8 a1_2, .bool false, .slice A1_4 l1_4.length c1_4] 24)) (ds := []) #[false, false, false, false, false, false] (by kernel_rfl) rfl rfl ⟨HX4.out.below (below_drew1 (Below.refl _ _)) HX4.out.lt, HY4.out.below (below_drew1 (Below.refl _ _)) HY4.out.lt⟩ (fun hHeld => ?_)
  have HX5 := Aside0.mk (HX4.out.below (below_drew1 (Below.refl _ _)) HX4.out.lt)
  have HY5 := Aside0.mk (HY4.out.below (below_drew1 (Below.refl _ _)) HY4.out.lt)
  have HD5 := Aside0.mk (HD4.out.below (below_drew1 (Below.refl _ _)))
  have HE5 := Aside0.mk (HE4.out.below (below_drew1 (Below.refl _ _)))
  have HB5 := Aside0.mk (HB4.out.trans (below_drew1 (Below.refl _ _) |>.mono HB4.out.size))
  generalize World.drew _ = w5 at *
  clear HX4 HY4 HD4 HE4 HB4
  refine take_ (i := 0) (N := some 34) (v := .agg #[.int .i64 a0_0, .int .i64 a0_1, .int .u8 a0_2, .bool false, .slice A0_4 l0_4.length c0_4]) (a' := ?_) #[true, false, false, false, false, false] rfl rfl (by kernel_rfl) (fun _ _ _ h => h) (Or.inl ⟨by rfl, ?_⟩) hHeld ?_ ?_
  · intro w' hs_
    obtain ⟨hs0, hs1⟩ := hs_
    exact X.load_exec 24 (.tmp 3) (by rfl) g0 0 (by rfl) [.int .i64 a0_0, .int .i64 a0_1, .int .u8 a0_2, .bool false, .slice A0_4 l0_4.length c0_4] _ (blk_range hs0) Try.underlying24 rfl info_deed
  rotate_left
  · simp only [Act.put, List.setIfInBounds_toArray, List.set_cons_zero, List.set_cons_succ, i64_w, i32_w]
    rfl
  refine take_ (i := 2) (N := some 36) (v := .agg #[.int .i64 a1_0, .int .i64 a1_1, .int .u8 a1_2, .bool false, .slice A1_4 l1_4.length c1_4]) (a' := ?_) #[true, false, true, false, false, false] rfl rfl (by kernel_rfl) (fun _ _ _ h => h) (Or.inl ⟨by rfl, ?_⟩) hHeld ?_ ?_
  · intro w' hs_
    obtain ⟨hs0, hs1⟩ := hs_
    exact X.load_exec 24 (.tmp 4) (by rfl) (g0 + 1) 0 (by rfl) [.int .i64 a1_0, .int .i64 a1_1, .int .u8 a1_2, .bool false, .slice A1_4 l1_4.length c1_4] _ (blk_range hs1) Try.underlying24 rfl info_deed
  rotate_left
  · simp only [Act.put, List.setIfInBounds_toArray, List.set_cons_zero, List.set_cons_succ, i64_w, i32_w]
    rfl
  refine one_ (i := 1) (N := some 35) #[true, true, true, false, false, false] rfl rfl (by kernel_rfl) (by decide) (fun K hK => ?_)
  refine goes_ Try.func13 (by kernel_rfl) rfl #[.agg #[.int .i64 a0_0, .int .i64 a0_1, .int .u8 a0_2, .bool false, .slice A0_4 l0_4.length c0_4]] (by rfl) rfl rfl (by (try simp only [List.map_toArray, List.map_cons, List.map_nil]); first | done | rfl) ?_
  refine (data_0 a0_0 a0_1 a0_2 A0_4 c0_4 l0_4 w5 (HR0.out w5 HB5.out) HC0.out).mono ?_
  rintro e w6 ⟨ga, ca, rfl, ga1, ga2, ca1, hca, hb6⟩
  refine ⟨_, rfl, ?_⟩
  have HX6 := Aside0.mk (HX5.out.below hb6 HX5.out.lt)
  have HY6 := Aside0.mk (HY5.out.below hb6 HY5.out.lt)
  have HD6 := Aside0.mk (HD5.out.below hb6)
  have HE6 := Aside0.mk (HE5.out.below hb6)
  have HB6 := Aside0.mk (HB5.out.trans (hb6.mono HB5.out.size))
  have HGA : Aside0 ((∀ k, O2 k ∨ P2 k → k ≠ ga) ∧ ga < w6.heap.size ∧ 256 ≤ ca) := ⟨⟨fun k hk => by have := hk.elim (HD5.out.hi k) (HE5.out.hi k); omega, ga2, ca1⟩⟩
  have HCA6 := Aside0.mk hca
  clear hb6 hca ga1 ga2 ca1 HX5 HY5 HD5 HE5 HB5 hHeld
  refine hK.out _ _ ⟨HX6.out, HY6.out⟩ (fun hHeld => ?_)
  clear hK K
  refine norm_ (a' := ?_) ?_ ?_
  rotate_left
  · show Act.put _ (some 35) _ = _
    simp only [Act.put, List.setIfInBounds_toArray, List.set_cons_zero, List.set_cons_succ, i64_w, i32_w]
    rfl
  refine one_ (i := 3) (N := some 37) #[true, true, true, true, false, false] rfl rfl (by kernel_rfl) (by decide) (fun K hK => ?_)
  refine goes_ Try.func13 (by kernel_rfl) rfl #[.agg #[.int .i64 a1_0, .int .i64 a1_1, .int .u8 a1_2, .bool false, .slice A1_4 l1_4.length c1_4]] (by rfl) rfl rfl (by (try simp only [List.map_toArray, List.map_cons, List.map_nil]); first | done | rfl) ?_
  refine (data_0 a1_0 a1_1 a1_2 A1_4 c1_4 l1_4 w6 (HR1.out w6 HB6.out) HC1.out).mono ?_
  rintro e w7 ⟨gb, cb, rfl, gb1, gb2, cb1, hcb, hb7⟩
  refine ⟨_, rfl, ?_⟩
  have HX7 := Aside0.mk (HX6.out.below hb7 HX6.out.lt)
  have HY7 := Aside0.mk (HY6.out.below hb7 HY6.out.lt)
  have HD7 := Aside0.mk (HD6.out.below hb7)
  have HE7 := Aside0.mk (HE6.out.below hb7)
  have HB7 := Aside0.mk (HB6.out.trans (hb7.mono HB6.out.size))
  have HGB : Aside0 ((∀ k, O2 k ∨ P2 k → k ≠ gb) ∧ gb < w7.heap.size ∧ 256 ≤ cb) := ⟨⟨fun k hk => by have := hk.elim (HD6.out.hi k) (HE6.out.hi k); omega, gb2, cb1⟩⟩
  have HCA7 := Aside0.mk (Kd.C_below HCA6.out hb7)
  have HGA7 : Aside0 (ga < w7.heap.size) := ⟨Nat.lt_of_lt_of_le HGA.out.2.1 hb7.size⟩
  have HCB7 := Aside0.mk hcb
  clear hb7 hcb gb1 gb2 cb1 HX6 HY6 HD6 HE6 HB6 HCA6 hHeld
  refine hK.out _ _ ⟨HX7.out, HY7.out⟩ (fun hHeld => ?_)
  clear hK K
  refine norm_ (a' := ?_) ?_ ?_
  rotate_left
  · show Act.put _ (some 37) _ = _
    simp only [Act.put, List.setIfInBounds_toArray, List.set_cons_zero, List.set_cons_succ, i64_w, i32_w]
    rfl
  refine pure_ (i := 4) (N := some 11) (v := ?_) (a' := ?_) #[true, true, true, true, true, false] rfl rfl (by kernel_rfl) (fun _ _ _ h => h) (Or.inl ⟨by rfl, ?_⟩) ?_ ?_
  rotate_left
  · intro w' 
    go_simp
    with_reducible rfl
  rotate_left
  · simp only [Act.put, List.setIfInBounds_toArray, List.set_cons_zero, List.set_cons_succ, i64_w, i32_w]
    rfl
  refine pure_ (i := 5) (N := some 12) (v := ?_) (a' := ?_) #[true, true, true, true, true, true] rfl rfl (by kernel_rfl) (fun _ _ _ h => h) (Or.inl ⟨by rfl, ?_⟩) ?_ ?_
  rotate_left
  · intro w' 
    go_simp
    with_reducible rfl
  rotate_left
  · simp only [Act.put, List.setIfInBounds_toArray, List.set_cons_zero, List.set_cons_succ, i64_w, i32_w]
    rfl
  refine done_ (by kernel_rfl) ?_
  have HPR7 := Aside0.mk (Pair.mk (base := w.heap.size) HD7.out HE7.out (fun k h1 h2 => (HOP.out k h2).2.2 h1) ⟨fun h => HGA.out.1 ga (.inl h) rfl, fun h => HGA.out.1 ga (.inr h) rfl, HGA7.out⟩ ⟨fun h => HGB.out.1 gb (.inl h) rfl, fun h => HGB.out.1 gb (.inr h) rfl, HGB.out.2.1⟩ HCA7.out HCB7.out)
  clear HD7 HE7 HX7 HY7 HCA7 HCB7 HGA7 hHeld
  go_wp2_with fail
  refine (write_ok _ w7 p 1 0 ⟨(List.replicate (256 * 1) 0), [], [], false, 0⟩ _ ga ca (dataL a0_2 256) (HPR7.out).D HB7.out.size (by decide) (HPR7.out).ca HGA.out.2.2 (dataL_u8 _ _) ⟨(HPR7.out).na.1, (HPR7.out).na.2.2⟩ (by simp)).mono ?_
  rintro e w8 ⟨rfl, st⟩
  obtain ⟨O8, hp⟩ := (HPR7.out).stepD (show Step _ _ _ _ _ ⟨(List.replicate (256 * 1) 0), [(0, dataL a0_2 256)], [], false, 0⟩ _ from st)
  have HPR8 := Aside0.mk (hp)
  have HB8 := Aside0.mk (HB7.out.trans (st.below (HPR7.out).D.lo HB7.out.size))
  clear st hp HPR7 HB7
  go_wp2_with fail
  refine (write_ok _ w8 p 1 0 ⟨(List.replicate (256 * 1) 0), [(0, dataL a0_2 256)], [], false, 0⟩ _ gb cb (dataL a1_2 256) (HPR8.out).D HB8.out.size (by decide) (HPR8.out).cb HGB.out.2.2 (dataL_u8 _ _) ⟨(HPR8.out).nb.1, (HPR8.out).nb.2.2⟩ (by simp)).mono ?_
  rintro e w9 ⟨rfl, st⟩
  obtain ⟨O9, hp⟩ := (HPR8.out).stepD (show Step _ _ _ _ _ ⟨(List.replicate (256 * 1) 0), [(0, dataL a0_2 256), (0, dataL a1_2 256)], [], false, 0⟩ _ from st)
  have HPR9 := Aside0.mk (hp)
  have HB9 := Aside0.mk (HB8.out.trans (st.below (HPR8.out).D.lo HB8.out.size))
  clear st hp HPR8 HB8
  go_wp2_with fail
  refine (write_ok _ w9 q 1 0 ⟨(List.replicate (256 * 1) 0), [], [], false, 0⟩ _ ga ca (dataL a0_2 256) (HPR9.out.swap).D HB9.out.size (by decide) (HPR9.out.swap).ca HGA.out.2.2 (dataL_u8 _ _) ⟨(HPR9.out.swap).na.1, (HPR9.out.swap).na.2.2⟩ (by simp)).mono ?_
  rintro e w10 ⟨rfl, st⟩
  obtain ⟨O10, hp⟩ := (HPR9.out.swap).stepD (show Step _ _ _ _ _ ⟨(List.replicate (256 * 1) 0), [(0, dataL a0_2 256)], [], false, 0⟩ _ from st)
  have HPR10 := Aside0.mk (hp.swap)
  have HB10 := Aside0.mk (HB9.out.trans (st.below (HPR9.out.swap).D.lo HB9.out.size))
  clear st hp HPR9 HB9
  go_wp2_with fail
  refine (write_ok _ w10 q 1 0 ⟨(List.replicate (256 * 1) 0), [(0, dataL a0_2 256)], [], false, 0⟩ _ gb cb (dataL a1_2 256) (HPR10.out.swap).D HB10.out.size (by decide) (HPR10.out.swap).cb HGB.out.2.2 (dataL_u8 _ _) ⟨(HPR10.out.swap).nb.1, (HPR10.out.swap).nb.2.2⟩ (by simp)).mono ?_
  rintro e w11 ⟨rfl, st⟩
  obtain ⟨O11, hp⟩ := (HPR10.out.swap).stepD (show Step _ _ _ _ _ ⟨(List.replicate (256 * 1) 0), [(0, dataL a0_2 256), (0, dataL a1_2 256)], [], false, 0⟩ _ from st)
  have HPR11 := Aside0.mk (hp.swap)
  have HB11 := Aside0.mk (HB10.out.trans (st.below (HPR10.out.swap).D.lo HB10.out.size))
  clear st hp HPR10 HB10
  go_wp2_with fail
  refine (crash_h _ w11 p 1 _ _ A2 c2 l2 HPR11.out.D HB11.out.size (HR2.out w11 HB11.out) HC2.out (fun ad e h0 => ⟨fun hk => absurd (HPR11.out.D.lo _ hk) (by have := HA2.out ad e h0; omega), by have := HA2.out ad e h0; have := HB11.out.size; omega⟩) (by simp)).mono ?_
  rintro e w12 ⟨rfl, st⟩
  obtain ⟨xs, hxs⟩ : ∃ xs, xs = X.crashTo (List.replicate 256 0) [(0, dataL a0_2 256), (0, dataL a1_2 256)] l2 2 := ⟨_, rfl⟩
  obtain ⟨O12, hp⟩ := HPR11.out.stepD (show Step _ _ _ _ _ ⟨xs, [], [], false, 0⟩ _ from by rw [hxs]; exact st)
  have HPR12 := Aside0.mk hp
  have HB12 := Aside0.mk (HB11.out.trans (st.below HPR11.out.D.lo HB11.out.size))
  have HXS := Aside0.mk hxs
  clear st hp HPR11 HB11 hxs
  go_wp2_with fail
  refine (stable_h _ w12 p 1 _ _ HPR12.out.D).mono ?_
  rintro e w13 ⟨v, rfl, ho, hb⟩
  have HPR13 := Aside0.mk (HPR12.out.below hb)
  have HB13 := Aside0.mk (HB12.out.trans (hb.mono HB12.out.size))
  have hxl : xs.length = 256 := by rw [HXS.out]; exact X.two_length _ _ _ _ (by rw [List.length_replicate]) (dataL_len _ _) (dataL_len _ _)
  obtain ⟨gx, cx, rfl, gx1, gx2, -⟩ := Kd.R_form ho (by show 0 < xs.length; omega)
  have HCX := Aside0.mk (Kd.R_reads' ho)
  rw [show ({ bytes := xs, pend := [], ghosts := [], set := false, left := 0 } : X.DS).bytes.length = 256 from hxl] at HCX ⊢
  have HXL := Aside0.mk hxl
  clear ho hb gx1 gx2 hxl HPR12 HB12
  go_wp2_with fail
  have HPR := Aside0.mk HPR13.out
  have HZ : Aside0 (∀ s, s < 4 → (strOfNums (X.sector xs s)).toList = (strOfNums (X.sector (dataL a0_2 256) s)).toList ∨ (strOfNums (X.sector xs s)).toList = (strOfNums (X.sector (dataL a1_2 256) s)).toList ∨ (strOfNums (X.sector xs s)).toList = (strOfNums zeros64).toList) := ⟨fun s hs => by
    have hz : X.sector (List.replicate 256 0) s = List.replicate 64 0 := by
      have : s = 0 ∨ s = 1 ∨ s = 2 ∨ s = 3 := by omega
      rcases this with rfl | rfl | rfl | rfl <;> decide +kernel
    rcases X.two_sector (List.replicate 256 0) (dataL a0_2 256) (dataL a1_2 256) l2 (by rw [List.length_replicate]) (dataL_len _ _) (dataL_len _ _) s hs with e | e | e
    · rw [← HXS.out] at e; exact .inr (.inl (by rw [e]))
    · rw [← HXS.out] at e; exact .inl (by rw [e])
    · rw [← HXS.out, hz] at e; exact .inr (.inr (by rw [e]; rfl))⟩
  go_loopg [14, 15] 4 (fun gk v14 v15 w' => ∃ j : Nat, v14 = .int .i64 (j : Int) ∧ Aside0 (gk + j = 4) ∧ Aside0 (Below w13.heap.size w13 w'))
  case atStart => exact ⟨0, rfl, ⟨rfl⟩, ⟨Below.refl _ _⟩⟩
  case round =>
    obtain ⟨j, rfl, HK, HB⟩ := hrel
    by_cases hlt : j < 4
    · have HPRr := Aside0.mk (HPR13.out.below HB.out)
      have hs : ∀ (g c : Nat) (l : List Int), (Kd.int .u8).C wr (some ⟨g, 0, none⟩) 256 l → (convert 22 9 (.slice (some ⟨g, 64 * j, none⟩) 64 c)).run Try.prog wr = .ok (.string (strOfNums (X.sector l j))) wr := fun g c l h => by
        have h2 := X.C_sub (a := 64 * j) (m := 64) h (by omega)
        exact Kd.C_string (P := Try.prog) Try.underlying22 Try.underlying5 Try.underlying9 h2
      have q0 : decide ((j : Int) < 4) = true := decide_eq_true (by omega)
      have q00 : decide (j < 4) = true := decide_eq_true hlt
      have ex := hs gx (cx - 64 * j) xs (Kd.C_below HCX.out.2.2 HB.out)
      have ea := hs ga (ca - 64 * j) _ HPRr.out.ca
      have eb := hs gb (cb - 64 * j) _ HPRr.out.cb
      have kx := HCX.out.2.1
      have ka := HGA.out.2.2
      have kb := HGB.out.2.2
      clear hs
      have hj : j = 0 ∨ j = 1 ∨ j = 2 ∨ j = 3 := by omega
      obtain ⟨w2, hmk, hbz, ez⟩ := make64 wr
      have HBz := Aside0.mk (HB.out.trans (hbz.mono HB.out.size))
      clear hbz
      rcases hj with rfl | rfl | rfl | rfl
      · simp only [Nat.reduceMul, Nat.mul_zero, Nat.mul_one, Nat.sub_zero] at ex ea eb
        have HZ1 := Aside0.mk (HZ.out 0 (by decide))
        go_wp2_with fail
        all_goals first
          | (exfalso; rename_i hh; obtain ⟨⟨h1, h2⟩, h3⟩ := hh; rcases HZ1.out with h | h | h <;> simp [h] at h1 h2 h3)
          | (cases gk with
            | zero => exact absurd HK.out (by omega)
            | succ k1 =>
              go_roundg k1
              case measure => omega
              case rel => exact ⟨0+1, by go_num, ⟨by have := HK.out; omega⟩, by first | exact HBz | exact HB⟩)
      · simp only [Nat.reduceMul, Nat.mul_zero, Nat.mul_one, Nat.sub_zero] at ex ea eb
        have HZ1 := Aside0.mk (HZ.out 1 (by decide))
        go_wp2_with fail
        all_goals first
          | (exfalso; rename_i hh; obtain ⟨⟨h1, h2⟩, h3⟩ := hh; rcases HZ1.out with h | h | h <;> simp [h] at h1 h2 h3)
          | (cases gk with
            | zero => exact absurd HK.out (by omega)
            | succ k1 =>
              go_roundg k1
              case measure => omega
              case rel => exact ⟨1+1, by go_num, ⟨by have := HK.out; omega⟩, by first | exact HBz | exact HB⟩)
      · simp only [Nat.reduceMul, Nat.mul_zero, Nat.mul_one, Nat.sub_zero] at ex ea eb
        have HZ1 := Aside0.mk (HZ.out 2 (by decide))
        go_wp2_with fail
        all_goals first
          | (exfalso; rename_i hh; obtain ⟨⟨h1, h2⟩, h3⟩ := hh; rcases HZ1.out with h | h | h <;> simp [h] at h1 h2 h3)
          | (cases gk with
            | zero => exact absurd HK.out (by omega)
            | succ k1 =>
              go_roundg k1
              case measure => omega
              case rel => exact ⟨2+1, by go_num, ⟨by have := HK.out; omega⟩, by first | exact HBz | exact HB⟩)
      · simp only [Nat.reduceMul, Nat.mul_zero, Nat.mul_one, Nat.sub_zero] at ex ea eb
        have HZ1 := Aside0.mk (HZ.out 3 (by decide))
        go_wp2_with fail
        all_goals first
          | (exfalso; rename_i hh; obtain ⟨⟨h1, h2⟩, h3⟩ := hh; rcases HZ1.out with h | h | h <;> simp [h] at h1 h2 h3)
          | (cases gk with
            | zero => exact absurd HK.out (by omega)
            | succ k1 =>
              go_roundg k1
              case measure => omega
              case rel => exact ⟨3+1, by go_num, ⟨by have := HK.out; omega⟩, by first | exact HBz | exact HB⟩)
    · have q0 : decide ((j : Int) < 4) = false := decide_eq_false (by omega)
      have q00 : decide (j < 4) = false := decide_eq_false hlt
      clear HZ HCX HXL HPR13
      have HPRr := Aside0.mk (HPR.out.below HB.out)
      have HBr := Aside0.mk (HB13.out.trans (HB.out.mono HB13.out.size))
      clear HPR HB HB13
      go_wp2_with fail
      refine (crash_h _ _ q 1 _ _ (some ⟨wr.heap.size, 0, none⟩) 1 [255] (HPRr.out.E.below ((Below.refl _ _).alloc (Nat.le_refl _) _)) (by have := HBr.out.size; simp; omega) (X.C_new rfl (by decide)) (by decide) ?_ (by simp)).mono ?_
      · intro ad e _
        injection e with e
        subst e
        exact ⟨fun h => absurd (HPRr.out.E.hi _ h) (Nat.lt_irrefl _), by simp⟩
      rintro e w15 ⟨rfl, st⟩
      have HP15 := Aside0.mk ((HPRr.out.below ((Below.refl _ _).alloc (Nat.le_refl _) (.cells #[.int .u8 255] 5))).swap.stepD (show Step _ _ _ _ _ ⟨dataL a1_2 256, [], [], false, 0⟩ _ from by
        have hz := X.two_all (List.replicate (256 * 1) 0) (dataL a0_2 256) (dataL a1_2 256) (by simp) (dataL_len _ _) (dataL_len _ _)
        rw [← hz]
        exact st))
      have HB15 := Aside0.mk ((HBr.out.alloc HBr.out.size (.cells #[.int .u8 255] 5)).trans (st.below HPRr.out.E.lo (by have := HBr.out.size; simp; omega)))
      clear st HPRr HBr
      obtain ⟨O15, hp⟩ := HP15.out
      have HP := Aside0.mk hp
      clear hp HP15
      go_wp2_with fail
      refine start_ (n := 7) (S := (fun w' => (Kd.int .u8).C w' (some ⟨gb, 0, none⟩) 256 (dataL a1_2 256))) (ds := []) #[false, false, false, false, false, false, false] (by kernel_rfl) rfl rfl (Kd.C_below HP.out.cb (below_drew1 (Below.refl _ _))) (fun hHeld => ?_)
      have HP16 := Aside0.mk (HP.out.below (below_drew1 (Below.refl _ _)))
      have HB16 := Aside0.mk (HB15.out.trans (below_drew1 (Below.refl _ _) |>.mono HB15.out.size))
      generalize World.drew _ = w16 at *
      clear HP HB15
      refine pure_ (i := 0) (N := some 108) (v := ?_) (a' := ?_) #[true, false, false, false, false, false, false] rfl rfl (by kernel_rfl) (fun _ _ _ h => h) (Or.inl ⟨by rfl, ?_⟩) ?_ ?_
      rotate_left
      · intro w' 
        go_simp
        with_reducible rfl
      rotate_left
      · simp only [Act.put, List.setIfInBounds_toArray, List.set_cons_zero, List.set_cons_succ, i64_w, i32_w]
        rfl
      refine pure_ (i := 3) (N := some 111) (v := ?_) (a' := ?_) #[true, false, false, true, false, false, false] rfl rfl (by kernel_rfl) (fun _ _ _ h => h) (Or.inl ⟨by rfl, ?_⟩) ?_ ?_
      rotate_left
      · intro w' 
        go_simp
        with_reducible rfl
      rotate_left
      · simp only [Act.put, List.setIfInBounds_toArray, List.set_cons_zero, List.set_cons_succ, i64_w, i32_w]
        rfl
      refine take_ (i := 4) (N := some 112) (v := .string (strOfNums (dataL a1_2 256))) (a' := ?_) #[true, false, false, true, true, false, false] rfl rfl (by kernel_rfl) (fun _ _ _ h => h) (Or.inl ⟨by rfl, ?_⟩) hHeld ?_ ?_
      · intro w' hs_
        exact conv_exec (.tmp 111) (by rfl) _ _ (by rfl) (str_C hs_)
      rotate_left
      · simp only [Act.put, List.setIfInBounds_toArray, List.set_cons_zero, List.set_cons_succ, i64_w, i32_w]
        rfl
      refine one_ (i := 1) (N := some 109) #[true, true, false, true, true, false, false] rfl rfl (by kernel_rfl) (by decide) (fun K hK => ?_)
      refine goes_ Try.func16 (by kernel_rfl) rfl #[.pointer (some ⟨q, 0, none⟩)] (by rfl) rfl rfl (by (try simp only [List.map_toArray, List.map_cons, List.map_nil]); first | done | rfl) ?_
      refine (stable_h _ w16 q 1 _ _ HP16.out.D).mono ?_
      rintro e w17 ⟨v, rfl, ho, hb⟩
      refine ⟨_, rfl, ?_⟩
      have HP17 := Aside0.mk (HP16.out.below hb)
      have HB17 := Aside0.mk (HB16.out.trans (hb.mono HB16.out.size))
      obtain ⟨gy, cy, rfl, -⟩ := Kd.R_form ho (by show 0 < (dataL a1_2 256).length; rw [dataL_len]; decide)
      have HCY := Aside0.mk (Kd.R_reads' ho).2.2
      rw [show ({ bytes := dataL a1_2 256, pend := [], ghosts := [], set := false, left := 0 } : X.DS).bytes.length = 256 from dataL_len _ _] at HCY ⊢
      clear HP16 HB16 hb ho hHeld
      refine hK.out _ _ HP17.out.cb (fun hHeld => ?_)
      clear hK K
      refine norm_ (a' := ?_) ?_ ?_
      rotate_left
      · show Act.put _ (some 109) _ = _
        simp only [Act.put, List.setIfInBounds_toArray, List.set_cons_zero, List.set_cons_succ, i64_w, i32_w]
        rfl
      refine one_ (i := 2) (N := some 110) #[true, true, true, true, true, false, false] rfl rfl (by kernel_rfl) (by decide) (fun K hK => ?_)
      refine X.val_ (by rfl) rfl (conv_exec (.tmp 109) (by rfl) _ _ (by rfl) (str_C HCY.out)) ?_
      refine hK.out _ _ HP17.out.cb (fun hHeld => ?_)
      clear hK K
      refine norm_ (a' := ?_) ?_ ?_
      rotate_left
      · show Act.put _ (some 110) _ = _
        simp only [Act.put, List.setIfInBounds_toArray, List.set_cons_zero, List.set_cons_succ, i64_w, i32_w]
        rfl
      refine pure_ (i := 5) (N := some 113) (v := ?_) (a' := ?_) #[true, true, true, true, true, true, false] rfl rfl (by kernel_rfl) (fun _ _ _ h => h) (Or.inl ⟨by rfl, ?_⟩) ?_ ?_
      rotate_left
      · intro w' 
        go_simp
        with_reducible rfl
      rotate_left
      · simp only [Act.put, List.setIfInBounds_toArray, List.set_cons_zero, List.set_cons_succ, i64_w, i32_w]
        rfl
      refine pure_ (i := 6) (N := some 6) (v := ?_) (a' := ?_) #[true, true, true, true, true, true, true] rfl rfl (by kernel_rfl) (fun _ _ _ h => h) (Or.inl ⟨by rfl, ?_⟩) ?_ ?_
      rotate_left
      · intro w' 
        go_simp
        with_reducible rfl
      rotate_left
      · simp only [Act.put, List.setIfInBounds_toArray, List.set_cons_zero, List.set_cons_succ, i64_w, i32_w]
        rfl
      refine done_ (by kernel_rfl) ?_
      go_wp2
      go_ret
      exact ⟨rfl, HB17.out⟩

end Go.Proofs.Ytbpkjkdbijifbaa.U
