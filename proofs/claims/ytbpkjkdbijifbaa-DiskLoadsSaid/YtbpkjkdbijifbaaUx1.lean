/- Written by uprint.py (ours) for this seat: functions of the translation as Lean functions, and what their calls do. Not trusted: Lean checks it. -/
import Derived.Test.YtbpkjkdbijifbaaUx0
import Derived.Test.YtbpkjkdbijifbaaUx19
namespace Go.Proofs.Ytbpkjkdbijifbaa.U
open Go.RowKit Go.Proofs.YtbpkjkdbijifbaaW.PrintWords Go.Proofs.YtbpkjkdbijifbaaW.PrintLast Go.Proofs.YtbpkjkdbijifbaaW.PrintMore
attribute [local go_sem] max2_int min2_int max_two min_two max_three min_three max_four min_four   -- for this text's walks alone
set_option linter.unusedVariables false
set_option linter.unusedSimpArgs false

-- GIVEN: function 33 (undercroft/disk.made)
/-- A disk's box and its maps. -/
def Made (w : World) (v : Value) (e : Ending) (w' : World) : Prop := ∃ p gl gg : Nat, e = .returned (.pointer (some ⟨p, 0, none⟩)) ∧ w.heap.size ≤ p ∧ w.heap.size ≤ gl ∧ w.heap.size ≤ gg ∧ gl ≠ gg ∧ X.Blk w' p #[v, .slice none 0 0, .map (some gl), .map (some gg), .bool false, .int .i64 0] 66 ∧
  X.IMap Try.prog 3 w' gl (fun _ => none) ∧ X.IMap Try.prog 3 w' gg (fun _ => none) ∧ Below w.heap.size w w'
theorem disk_made.calls (A : Option Addr) (m c : Nat) (w : World) : Calls Try.prog 33 #[.slice A m c] w (Made w (.slice A m c)) := by
  have hmm := @run_makeMap Try.prog
  go_enter Try.func33, Try.ntmps33
  go_wp2
  go_ret
  have hb1 := (Below.refl w.heap.size w).alloc (Nat.le_refl _) (.map #[] 0)
  refine ⟨w.heap.size + 1 + 1, w.heap.size, w.heap.size + 1, rfl, by omega, Nat.le_refl _, by omega, by omega, ?_, ?_, ?_, ?_⟩
  · have := X.Blk.new ((w.alloc (.map #[] 0)).alloc (.map #[] 0)) #[.slice A m c, .slice none 0 0, .map (some w.heap.size), .map (some (w.heap.size + 1)), .bool false, .int .i64 0] 66
    simpa using this
  · exact ((X.IMap.made w).move (w' := (w.alloc (.map #[] 0)).alloc (.map #[] 0)) (heap_alloc_old (w.alloc (.map #[] 0)) _ (by simp))).move (heap_alloc_old ((w.alloc (.map #[] 0)).alloc (.map #[] 0)) _ (by simp; omega))
  · have := X.IMap.made (P := Try.prog) (K := 3) (w.alloc (.map #[] 0))
    rw [show (w.alloc (.map #[] 0)).heap.size = w.heap.size + 1 from by simp] at this
    exact this.move (heap_alloc_old ((w.alloc (.map #[] 0)).alloc (.map #[] 0)) _ (by simp))
  · exact ((hb1.alloc hb1.size _).alloc (by simp; omega) _)

-- GIVEN: function 12 (undercroft/disk.New)
theorem made_pd {w w1 w' : World} {v : Value} {xs : List Int} {n : Nat} {e : Ending} (h : Made w1 v e w') (hs : (Kd.int .u8).R 5 w1 w.heap.size (fun _ => True) v xs) (hb : Below w.heap.size w w1) (hok : (X.DS.new xs).Ok n) :
    ∃ p, e = .returned (.pointer (some ⟨p, 0, none⟩)) ∧ w.heap.size ≤ p ∧ X.PD w' p (fun k => w.heap.size ≤ k ∧ k < w'.heap.size) (fun _ => False) n (X.DS.new xs) ∧ Below w.heap.size w w' := by
  obtain ⟨p, gl, gg, rfl, h1, h2, h3, h4, h5, h6, h7, h8⟩ := h
  have hz := hb.size
  exact ⟨p, rfl, by omega, X.PD.fresh h5 h6 h7 h4 (Kd.R_below hs h8) (by omega) (by omega) (by omega) hok, hb.trans (h8.mono hz)⟩
def NewPost (w : World) (n : Nat) (e : Ending) (w' : World) : Prop := ∃ p, e = .returned (.tuple #[.pointer (some ⟨p, 0, none⟩), .int .i64 0]) ∧ w.heap.size ≤ p ∧ X.PD w' p (fun k => w.heap.size ≤ k ∧ k < w'.heap.size) (fun _ => False) n (X.DS.new (List.replicate (256 * n) 0)) ∧ Below w.heap.size w w'
theorem disk_New.calls (n : Nat) (w : World) (h1 : 1 ≤ n) (h2 : n ≤ 1024) : Calls Try.prog 12 #[.int .i64 (n : Int)] w (NewPost w n) := by
  have q1 : decide ((n : Int) < 1) = false := decide_eq_false (by omega)
  have q2 : decide ((1024 : Int) < (n : Int)) = false := decide_eq_false (by omega)
  have q3 : decide (n < 1) = false := decide_eq_false (by omega)
  have q4 : decide (1024 < n) = false := decide_eq_false (by omega)
  go_enter Try.func12, Try.ntmps12
  go_wp2_with ((with_reducible refine gate_ (.makeSlice 22 (.tmp 11) (.tmp 11)) rfl ?_); (refine Kd.R_make (Kd.int .u8) (w0 := w) w.heap.size 5 rfl rfl 22 (.tmp 11) (.tmp 11) rfl ((n : Int) * 256) rfl rfl Try.underlying22 (.int .u8 0) 1 info5 rfl (by decide) (by omega) 0 (ok := fun _ => True) (okp := fun _ => False) rfl (fun _ h => h.elim) trivial (by omega) (by omega) (Below.refl _ _) (Nat.le_refl _) ?_); intro v1 w1 hr1 hb1 hg1 hv1; have HR := Aside0.mk hr1; have HB := Aside0.mk hb1; clear hr1 hb1 hg1 hv1; obtain ⟨A, c, e1⟩ := Kd.R_slice HR.out; subst e1)
  refine (disk_made.calls _ _ _ _).mono ?_
  intro e w2 hm
  have e1 : ((n : Int) * 256).toNat = 256 * n := by omega
  have e2 : (List.replicate ((n : Int) * 256).toNat (0 : Int)).length = n * 256 := by rw [List.length_replicate]; omega
  have hR := HR.out
  rw [e2, e1] at hR
  obtain ⟨p, rfl, hp, hpd, hbl⟩ := made_pd (n := n) hm hR HB.out (X.DS.new_ok (n := n) (by rw [List.length_replicate]) h1 h2 (X.u8all_iff.2 (fun c hc => by rw [(List.mem_replicate.1 hc).2]; decide)))
  have HPD := Aside0.mk hpd
  have HBL := Aside0.mk hbl
  clear hpd hbl hm hR HR HB
  go_wp2
  go_ret2
  exact ⟨p, rfl, hp, HPD.out, HBL.out⟩
theorem disk_New_no.calls (n : Int) (w : World) (h : n < 1 ∨ 1024 < n) : Calls Try.prog 12 #[.int .i64 n] w fun e w' => e = .returned (.tuple #[.pointer none, .int .i64 1]) ∧ w = w' := by
  rcases h with h | h
  · have q1 : decide (n < 1) = true := decide_eq_true h
    go_enter Try.func12, Try.ntmps12
    go_wp2
    go_ret2
    exact ⟨rfl, rfl⟩
  · have q1 : decide (n < 1) = false := decide_eq_false (by omega)
    have q2 : decide (1024 < n) = true := decide_eq_true h
    go_enter Try.func12, Try.ntmps12
    go_wp2
    go_ret2
    exact ⟨rfl, rfl⟩
theorem disk_New.part (w0 w : World) (L : List X.Res) (n : Nat) (h : X.Lies w0 w L) (h1 : 1 ≤ n) (h2 : n ≤ 1024) : Calls Try.prog 12 #[.int .i64 (n : Int)] w fun e w' =>
    ∃ p, e = .returned (.tuple #[.pointer (some ⟨p, 0, none⟩), .int .i64 0]) ∧ X.Lies w0 w' (.disk p n (X.DS.new (List.replicate (256 * n) 0)) :: L) := by
  refine (disk_New.calls n w h1 h2).mono ?_
  rintro e w' ⟨p, he, hp, hpd, hb⟩
  exact ⟨p, he, h.new (O := fun k => w.heap.size ≤ k ∧ k < w'.heap.size) (S := fun _ => False) hb ⟨_, _, hpd, fun _ h => h, fun _ h => h⟩ (fun _ h => h) (fun _ h => h.elim) (fun _ _ h => h)⟩

-- GIVEN: function 31 ((*undercroft/disk.Disk).Size)
/-- Size: how many blocks. -/
theorem disk_Size.calls (p : Nat) (A : Option Addr) (n c : Nat) (c1 c2 c3 c4 c5 : Value) (w : World) (hb : X.Blk w p #[.slice A (256 * n) c, c1, c2, c3, c4, c5] 66) (hn : n ≤ 1024) :
    Calls Try.prog 31 #[.pointer (some ⟨p, 0, none⟩)] w fun e w' => e = .returned (.int .i64 (n : Int)) ∧ w = w' := by
  have h0 := hb.cell 0 _ rfl
  clear hb
  go_enter Try.func31, Try.ntmps31
  go_wp2
  go_ret
  refine ⟨?_, rfl⟩
  first | rfl | (congr 2; done) | (congr 2; omega)
theorem disk_Size_nil.calls (w : World) :
    Calls Try.prog 31 #[.pointer none] w fun e w' => e = .returned (.int .i64 0) ∧ w = w' := by
  go_enter Try.func31, Try.ntmps31
  go_wp2
  go_ret
  exact ⟨rfl, rfl⟩
theorem disk_Size.part (w0 w : World) (L : List X.Res) (p n : Nat) (s : X.DS) (h : X.Lies w0 w (.disk p n s :: L)) :
    Calls Try.prog 31 #[.pointer (some ⟨p, 0, none⟩)] w fun e w' => e = .returned (.int .i64 (n : Int)) ∧ w = w' := by
  obtain ⟨F, G, ⟨sv, pv, gl, gg, fg, hp⟩, -⟩ := h.disk
  obtain ⟨A, c, e1⟩ := Kd.R_slice hp.st
  rw [hp.ok.len] at e1
  subst e1
  exact disk_Size.calls p A n c _ _ _ _ _ w hp.box hp.ok.n2

-- GIVEN: function 34 ((*undercroft/disk.Disk).has)
def hasB (i : Int) (n : Nat) : Bool := decide (0 ≤ i ∧ i < (n : Int))
theorem disk_has.calls (p : Nat) (A : Option Addr) (n c : Nat) (c1 c2 c3 c4 c5 : Value) (i : Int) (w : World) (hb : X.Blk w p #[.slice A (256 * n) c, c1, c2, c3, c4, c5] 66) (hn : n ≤ 1024) :
    Calls Try.prog 34 #[.pointer (some ⟨p, 0, none⟩), .int .i64 i] w fun e w' => e = .returned (.bool (hasB i n)) ∧ w = w' := by
  have HB := Aside0.mk hb
  clear hb
  by_cases h0 : 0 ≤ i
  · have q0 : decide (0 ≤ i) = true := decide_eq_true h0
    by_cases h1 : i < (n : Int)
    · have q1 : decide (i < (n : Int)) = true := decide_eq_true h1
      have HR : Aside0 (hasB i n = true) := ⟨decide_eq_true ⟨h0, h1⟩⟩
      go_enter Try.func34, Try.ntmps34
      go_wp2_with ((go_at_call 31; (with_reducible refine (disk_Size.calls p A n c c1 c2 c3 c4 c5 w HB.out hn).mono ?_); rintro e w' ⟨rfl, rfl⟩))
      go_ret
      exact ⟨by rw [HR.out]; rfl, rfl⟩
    · have q1 : decide (i < (n : Int)) = false := decide_eq_false h1
      have HR : Aside0 (hasB i n = false) := ⟨decide_eq_false (fun h => h1 h.2)⟩
      go_enter Try.func34, Try.ntmps34
      go_wp2_with ((go_at_call 31; (with_reducible refine (disk_Size.calls p A n c c1 c2 c3 c4 c5 w HB.out hn).mono ?_); rintro e w' ⟨rfl, rfl⟩))
      go_ret
      exact ⟨by rw [HR.out]; rfl, rfl⟩
  · have q0 : decide (0 ≤ i) = false := decide_eq_false h0
    have HR : Aside0 (hasB i n = false) := ⟨decide_eq_false (fun h => h0 h.1)⟩
    go_enter Try.func34, Try.ntmps34
    go_wp2
    go_ret
    exact ⟨by rw [HR.out]; rfl, rfl⟩
theorem disk_has_nil.calls (i : Int) (w : World) :
    Calls Try.prog 34 #[.pointer none, .int .i64 i] w fun e w' => e = .returned (.bool false) ∧ w = w' := by
  by_cases h0 : 0 ≤ i
  · have q0 : decide (0 ≤ i) = true := decide_eq_true h0
    have q1 : decide (i < 0) = false := decide_eq_false (by omega)
    go_enter Try.func34, Try.ntmps34
    go_wp2_with ((go_at_call 31; (with_reducible refine (disk_Size_nil.calls w).mono ?_); rintro e w' ⟨rfl, rfl⟩))
    go_ret
    exact ⟨rfl, rfl⟩
  · have q0 : decide (0 ≤ i) = false := decide_eq_false h0
    go_enter Try.func34, Try.ntmps34
    go_wp2
    go_ret
    exact ⟨rfl, rfl⟩

-- GIVEN: function 41 ((*undercroft/disk.Disk).blown)
/-- blown: is the power gone? -/
theorem disk_blown.calls (p : Nat) (c0 c1 c2 c3 : Value) (b : Bool) (l : Nat) (w : World) (hb : X.Blk w p #[c0, c1, c2, c3, .bool b, .int .i64 (l : Int)] 66) :
    Calls Try.prog 41 #[.pointer (some ⟨p, 0, none⟩)] w fun e w' => e = .returned (.bool (b && decide (l = 0))) ∧ w = w' := by
  have h4 := hb.cell 4 _ rfl
  have h5 := hb.cell 5 _ rfl
  clear hb
  go_enter Try.func41, Try.ntmps41
  cases b
  · go_wp2
    go_ret
    exact ⟨rfl, rfl⟩
  · by_cases hl : l = 0
    · subst hl
      go_wp2
      go_ret
      exact ⟨rfl, rfl⟩
    · have h0 : ((l : Int) == 0) = false := beq_eq_false_iff_ne.mpr (by omega)
      go_wp2
      go_ret
      exact ⟨by rw [decide_eq_false hl]; rfl, rfl⟩

-- GIVEN: function 35 ((*undercroft/disk.Disk).spend)
/-- What a fuse has left. -/
def spentL (b : Bool) (l : Nat) : Nat := if b = true then l - 1 else l
theorem disk_spend.calls (p : Nat) (c0 c1 c2 c3 : Value) (b : Bool) (l : Nat) (w : World) (hb : X.Blk w p #[c0, c1, c2, c3, .bool b, .int .i64 (l : Int)] 66) (hbl : (b && decide (l = 0)) = false) (hl : l ≤ 9223372036854775807) :
    Calls Try.prog 35 #[.pointer (some ⟨p, 0, none⟩)] w fun e w' => e = .returned (.bool true) ∧ X.Blk w' p #[c0, c1, c2, c3, .bool b, .int .i64 (spentL b l : Int)] 66 ∧ X.Turn (fun k => k = p) w w' := by
  have HB := Aside0.mk hb
  have HBL := Aside0.mk hbl
  have h4 := hb.cell 4 _ rfl
  have h5 := hb.cell 5 _ rfl
  have f5 := hb.free 5
  clear hb
  go_enter Try.func35, Try.ntmps35
  cases b
  · clear hbl
    go_wp2_with ((go_at_call 41; (with_reducible refine (disk_blown.calls p c0 c1 c2 c3 false l w HB.out).mono ?_); (try rw [HBL.out]); rintro e w' ⟨rfl, rfl⟩))
    go_ret
    exact ⟨rfl, HB.out, X.Turn.refl _ _⟩
  · have h1 : 1 ≤ l := by
      rcases Nat.eq_zero_or_pos l with h | h
      · subst h; cases hbl
      · exact h
    have hsub : wrap64 ((l : Int) - 1) = ((l - 1 : Nat) : Int) := by rw [← i64_w, IntWalk.i64_in _ (by omega)]; omega
    have hsub2 : IntKind.i64.wrap ((l : Int) - 1) = ((l - 1 : Nat) : Int) := by rw [IntWalk.i64_in _ (by omega)]; omega
    clear hbl
    go_wp2_with ((go_at_call 41; (with_reducible refine (disk_blown.calls p c0 c1 c2 c3 true l w HB.out).mono ?_); (try rw [HBL.out]); rintro e w' ⟨rfl, rfl⟩))
    go_ret
    refine ⟨rfl, ?_, X.Turn.setCell w ⟨p, 5, none⟩ _⟩
    have h := HB.out.set 5 (.int .i64 ((l - 1 : Nat) : Int))
    exact h
theorem disk_spend_no.calls (p : Nat) (c0 c1 c2 c3 : Value) (b : Bool) (l : Nat) (w : World) (hb : X.Blk w p #[c0, c1, c2, c3, .bool b, .int .i64 (l : Int)] 66) (hbl : (b && decide (l = 0)) = true) :
    Calls Try.prog 35 #[.pointer (some ⟨p, 0, none⟩)] w fun e w' => e = .returned (.bool false) ∧ w = w' := by
  have HB := Aside0.mk hb
  have HBL := Aside0.mk hbl
  clear hb hbl
  go_enter Try.func35, Try.ntmps35
  go_wp2_with ((go_at_call 41; (with_reducible refine (disk_blown.calls p c0 c1 c2 c3 b l w HB.out).mono ?_); (try rw [HBL.out]); rintro e w' ⟨rfl, rfl⟩))
  go_ret
  exact ⟨rfl, rfl⟩

/-! ### slices_Clone_byte_byte: function 36 (given) -/
def slices_Clone_byte_byte.f (l0 : List Int) : Option (List Int) := if l0.length ≤ 140737488351232 then some l0 else none
set_option maxHeartbeats 400000 in
set_option maxRecDepth 100000 in
theorem slices_Clone_byte_byte.calls (A0 : Option Addr) (c0 : Nat) (l0 : List Int) (r : List Int) (w : World) (hr0 : Kd.C (Kd.int .u8) w A0 l0.length l0) (hc0 : l0.length ≤ c0) (h : slices_Clone_byte_byte.f l0 = some r) :
    Calls Try.prog 36 #[.slice A0 l0.length c0] w fun e w' => ∃ v0_ : Value, e = .returned (v0_) ∧ Kd.R (Kd.int .u8) 5 w' w.heap.size (fun _ => True) v0_ r ∧ Below w.heap.size w w' := by
  unfold slices_Clone_byte_byte.f at h
  by_cases hlen : l0.length ≤ 140737488351232
  · rw [if_pos hlen] at h
    obtain rfl := Option.some.inj h
    have hn := Lib.run_eql_slice_nil (P := Try.prog)
    have HR := Aside0.mk hr0
    clear hr0
    cases A0 with
    | none =>
      have hz : l0 = [] := by
        rcases Nat.eq_zero_or_pos l0.length with h0 | h0
        · exact List.eq_nil_of_length_eq_zero h0
        · obtain ⟨ad, e, _⟩ := HR.out.2.2 h0
          cases e
      have HZ := Aside0.mk hz
      clear hz
      have hk := fun w => hn w 22 5 none l0.length c0 0 0 Try.underlying22
      clear hn
      go_enter Try.func36, Try.ntmps36
      go_wp2
      go_ret
      exact ⟨_, rfl, by rw [HZ.out]; exact Kd.R_nil _ _ _ _ _, Below.refl _ _⟩
    | some ad =>
      have hk := fun w => hn w 22 5 (some ad) l0.length c0 0 0 Try.underlying22
      clear hn
      go_enter Try.func36, Try.ntmps36
      go_wp2_with (first | ((with_reducible refine gate_dst (N := 5) rfl ?_); refine Kd.R_lit (Kd.int .u8) _ 5 ?hg (N := 5) ?hd (xs := ([] : List Int)) (inner := []) (ok := fun _ => True) (okp := fun _ => True) ?hr ?hp (fun _ hk => hk) trivial (Below.refl _ _) (Nat.le_refl _) (by simp) ?_; (case hd => rfl); (case hg => rfl); (case hr => first | (go_simp; done) | (go_simp; rfl)); (case hp => exact (Reps.none _ _)); intro v1 w1 ho1 hb1 hg_ hnew_; have HO1 := Aside0.mk ho1; have HB1 := Aside0.mk hb1; clear hg_ hnew_ ho1 hb1) | ((with_reducible refine gate_builtin (b := .append) (xs := #[.tmp 5, .tmp 6]) rfl ?_); at_builtin; refine Kd.R_append_row (Value.int .u8) (0 : Int) (w0 := w) w.heap.size rfl (.tmp 5) (.tmp 6) 22 5 (.int .u8 0) 1 rfl Try.underlying22 info5 rfl (by decide) v1 [] l0 (some ad) l0.length c0 (fun _ => True) rfl rfl (fun _ _ => trivial) HO1.out (Kd.C_below HR.out HB1.out) HB1.out HB1.out.size (by simp; omega) ?_; intro v2 w2 ho2 hb2 hg2 hat2; have HO2 := Aside0.mk ho2; have HB2 := Aside0.mk hb2; clear ho2 hb2 hg2 hat2))
      go_ret
      exact ⟨_, rfl, by have := HO2.out; rw [List.nil_append] at this; exact this, HB2.out⟩
  · rw [if_neg hlen] at h
    exact absurd h (by simp)

end Go.Proofs.Ytbpkjkdbijifbaa.U
