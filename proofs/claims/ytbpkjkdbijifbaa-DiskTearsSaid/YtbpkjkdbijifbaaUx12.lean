/- Written by uprint.py (ours) for this seat: functions of the translation as Lean functions, and what their calls do. Not trusted: Lean checks it. -/
import Derived.Test.YtbpkjkdbijifbaaUx0
import Derived.Test.YtbpkjkdbijifbaaUx1
namespace Go.Proofs.Ytbpkjkdbijifbaa.U
open Go.RowKit Go.Proofs.YtbpkjkdbijifbaaW.PrintWords Go.Proofs.YtbpkjkdbijifbaaW.PrintLast Go.Proofs.YtbpkjkdbijifbaaW.PrintMore
attribute [local go_sem] max2_int min2_int max_two min_two max_three min_three max_four min_four   -- for this text's walks alone
set_option linter.unusedVariables false
set_option linter.unusedSimpArgs false

-- NOT PRINTED: function 5 (undercroftlaw02_DiskBeside)

-- GIVEN: function 25 ((*undercroft/disk.Disk).Fuse)
theorem disk_Fuse.calls (p : Nat) (c0 c1 c2 c3 : Value) (b : Bool) (l : Nat) (n : Int) (w : World) (hb : X.Blk w p #[c0, c1, c2, c3, .bool b, .int .i64 (l : Int)] 66) (hbl : (b && decide (l = 0)) = false) (hn : n ≤ 9223372036854775807) :
    Calls Try.prog 25 #[.pointer (some ⟨p, 0, none⟩), .int .i64 n] w fun e w' => e = .returned (.tuple #[]) ∧ X.Blk w' p #[c0, c1, c2, c3, .bool (decide (0 ≤ n)), .int .i64 (n.toNat : Int)] 66 ∧ X.Turn (fun k => k = p) w w' := by
  have HB := Aside0.mk hb
  have HBL := Aside0.mk hbl
  have h4 := hb.cell 4 _ rfl
  have h5 := hb.cell 5 _ rfl
  have f4 := hb.free 4
  have f5 := hb.free 5
  clear hb hbl
  have fin : ∀ u v : Value, X.Blk ((w.setCell ⟨p, 4, none⟩ u).setCell ⟨p, 5, none⟩ v) p #[c0, c1, c2, c3, u, v] 66 ∧ X.Turn (fun k => k = p) w ((w.setCell ⟨p, 4, none⟩ u).setCell ⟨p, 5, none⟩ v) := fun u v =>
    ⟨(HB.out.set 4 u).set 5 v, (X.Turn.setCell w ⟨p, 4, none⟩ u).trans (X.Turn.setCell _ ⟨p, 5, none⟩ v) (fun _ h => .inl h)⟩
  have FIN := Aside0.mk fin
  clear fin
  by_cases h : 0 ≤ n
  · have q : decide (0 ≤ n) = true := decide_eq_true h
    have hm : max n 0 = n := by omega
    have HT : Aside0 (n = (n.toNat : Int)) := ⟨by omega⟩
    go_enter Try.func25, Try.ntmps25
    go_wp2_with ((go_at_call 41; (with_reducible refine (disk_blown.calls p c0 c1 c2 c3 b l w HB.out).mono ?_); (try rw [HBL.out]); rintro e w' ⟨rfl, rfl⟩))
    go_end0
    refine ⟨rfl, ?_⟩
    rw [q]
    first | (rw [← HT.out]; exact FIN.out _ _) | (rw [HT.out]; exact FIN.out _ _)
  · have q : decide (0 ≤ n) = false := decide_eq_false h
    have hm : max n 0 = 0 := by omega
    have HT : Aside0 ((n.toNat : Int) = 0) := ⟨by omega⟩
    go_enter Try.func25, Try.ntmps25
    go_wp2_with ((go_at_call 41; (with_reducible refine (disk_blown.calls p c0 c1 c2 c3 b l w HB.out).mono ?_); (try rw [HBL.out]); rintro e w' ⟨rfl, rfl⟩))
    go_end0
    refine ⟨rfl, ?_⟩
    rw [q]
    first | (rw [← HT.out]; exact FIN.out _ _) | (rw [HT.out]; exact FIN.out _ _)
theorem disk_Fuse_nil.calls (n : Int) (w : World) : Calls Try.prog 25 #[.pointer none, .int .i64 n] w fun e w' => e = .returned (.tuple #[]) ∧ w = w' := by
  go_enter Try.func25, Try.ntmps25
  go_wp2
  refine bodyPost_ret (results_none rfl _ _ _) rfl ?_
  exact ⟨rfl, rfl⟩

-- NOT PRINTED: function 6 (undercroftlaw02_DiskFuse)

-- NOT PRINTED: function 7 (undercroftlaw02_DiskKeeps)

-- NOT PRINTED: function 26 (undercroftref02_New)

/-- A state of type 42 at block g of W; what its slices lead to came in by w0. -/
def IsS42 (w0 W : World) (g : Nat) (f0 : List Int) (f1 : List (S74)) (f2 : List (S74)) (f3 : Bool) (f4 : Int) : Prop := ∃ A0 c0, ∃ A1 c1, ∃ A2 c2, W.heap[g]? = some (.cells #[.slice A0 f0.length c0, .slice A1 f1.length c1, .slice A2 f2.length c2, .bool f3, .int .i64 f4] 42 (0, 0)) ∧ w0.heap.size ≤ g ∧ Kd.C (Kd.int .u8) w0 A0 f0.length f0 ∧ Kd.C k74 w0 A1 f1.length f1 ∧ Kd.C k74 w0 A2 f2.length f2
theorem IsS42.grown {w0 W : World} {g : Nat} {f0 : List Int} {f1 : List (S74)} {f2 : List (S74)} {f3 : Bool} {f4 : Int} {W1 : World} {row : Option Nat} (h : IsS42 w0 W g f0 f1 f2 f3 f4) (hw : W.grownBy W1 row) (hne : some g ≠ row) : IsS42 w0 W1 g f0 f1 f2 f3 f4 := by
  obtain ⟨A0, c0, A1, c1, A2, c2, hb, hg, hr0, hr1, hr2⟩ := h
  exact ⟨A0, c0, A1, c1, A2, c2, blk_grown hb hw hne, hg, hr0, hr1, hr2⟩
theorem IsS42.own_neN {w0 W : World} {g : Nat} {f0 : List Int} {f1 : List (S74)} {f2 : List (S74)} {f3 : Bool} {f4 : Int} {α : Type} {d : Kd α} {e : Nat} {base : Nat} {ok : Nat → Prop} {v : Value} {xs : List α} (h : IsS42 w0 W g f0 f1 f2 f3 f4) (ho : Kd.N d e W base ok v xs) (ht : e ≠ 42) : some g ≠ v.ownBlock := by
  obtain ⟨A0, c0, A1, c1, A2, c2, hb, hg, hr0, hr1, hr2⟩ := h
  exact Kd.N_ne ho hb ht
theorem IsS42.fresh {w0 W : World} {g : Nat} {f0 : List Int} {f1 : List (S74)} {f2 : List (S74)} {f3 : Bool} {f4 : Int} (h : IsS42 w0 W g f0 f1 f2 f3 f4) : ∀ k, W.heap.size ≤ k → k ≠ g := by
  obtain ⟨A0, c0, A1, c1, A2, c2, hb, hg, hr0, hr1, hr2⟩ := h
  exact Kd.freshB hb
theorem IsS42.kept {w0 W : World} {g : Nat} {f0 : List Int} {f1 : List (S74)} {f2 : List (S74)} {f3 : Bool} {f4 : Int} {W1 : World} {S : Nat → Prop} (h : IsS42 w0 W g f0 f1 f2 f3 f4) (hk : Kept W W1 S) (hne : ¬ S g) : IsS42 w0 W1 g f0 f1 f2 f3 f4 := by
  obtain ⟨A0, c0, A1, c1, A2, c2, hb, hg, hr0, hr1, hr2⟩ := h
  exact ⟨A0, c0, A1, c1, A2, c2, blk_kept hb hk hne, hg, hr0, hr1, hr2⟩
theorem IsS42.below {w0 W : World} {g : Nat} {f0 : List Int} {f1 : List (S74)} {f2 : List (S74)} {f3 : Bool} {f4 : Int} {W1 : World} (h : IsS42 w0 W g f0 f1 f2 f3 f4) (hw : Below W.heap.size W W1) : IsS42 w0 W1 g f0 f1 f2 f3 f4 := h.grown (grown_of_below hw none) (by simp)
theorem IsS42.alloc {w0 W : World} {g : Nat} {f0 : List Int} {f1 : List (S74)} {f2 : List (S74)} {f3 : Bool} {f4 : Int} (h : IsS42 w0 W g f0 f1 f2 f3 f4) (o : Obj) : IsS42 w0 (W.alloc o) g f0 f1 f2 f3 f4 := h.below (below_alloc (Below.refl _ _) o)
theorem IsS42.drewN {w0 W : World} {g : Nat} {f0 : List Int} {f1 : List (S74)} {f2 : List (S74)} {f3 : Bool} {f4 : Int} (h : IsS42 w0 W g f0 f1 f2 f3 f4) (m : Nat) : IsS42 w0 (W.drewN m) g f0 f1 f2 f3 f4 := h
theorem IsS42.drew {w0 W : World} {g : Nat} {f0 : List Int} {f1 : List (S74)} {f2 : List (S74)} {f3 : Bool} {f4 : Int} (h : IsS42 w0 W g f0 f1 f2 f3 f4) : IsS42 w0 W.drew g f0 f1 f2 f3 f4 := h
theorem IsS42.at_ {w0 W : World} {g : Nat} {f0 : List Int} {f1 : List (S74)} {f2 : List (S74)} {f3 : Bool} {f4 : Int} {w' : World} {m : Nat} (hq : W.drewN m = w') (h : IsS42 w0 W g f0 f1 f2 f3 f4) : IsS42 w0 w' g f0 f1 f2 f3 f4 := by subst hq; exact IsS42.drewN h m
theorem IsS42.apart {w0 W : World} {g : Nat} {f0 : List Int} {f1 : List (S74)} {f2 : List (S74)} {f3 : Bool} {f4 : Int} {α : Type} {d : Kd α} {e : Nat} {base : Nat} {ok : Nat → Prop} {v : Value} {xs : List α} (h : IsS42 w0 W g f0 f1 f2 f3 f4) (ho : d.R e W base ok v xs) (ht : ∀ q, q ∈ e :: d.E → q ≠ 42) : d.R e W base (fun k => ok k ∧ k ≠ g) v xs := by
  obtain ⟨A0, c0, A1, c1, A2, c2, hb, hg, hr0, hr1, hr2⟩ := h
  exact Kd.R_types ho hb ht
theorem IsS42.own_ne {w0 W : World} {g : Nat} {f0 : List Int} {f1 : List (S74)} {f2 : List (S74)} {f3 : Bool} {f4 : Int} {α : Type} {d : Kd α} {e : Nat} {base : Nat} {ok : Nat → Prop} {v : Value} {xs : List α} (h : IsS42 w0 W g f0 f1 f2 f3 f4) (ho : d.R e W base ok v xs) (ht : e ≠ 42) : some g ≠ v.ownBlock := by
  obtain ⟨A0, c0, A1, c1, A2, c2, hb, hg, hr0, hr1, hr2⟩ := h
  exact Kd.R_ne ho hb ht
theorem IsS42.apartQ {w0 W : World} {g : Nat} {f0 : List Int} {f1 : List (S74)} {f2 : List (S74)} {f3 : Bool} {f4 : Int} {α : Type} {d : Kd α} {e : Nat} {base : Nat} {ok : Nat → Prop} {v : Value} {xs : List α} (h : IsS42 w0 W g f0 f1 f2 f3 f4) (ho : d.Q e W base ok v xs) (ht : ∀ q, q ∈ e :: d.E → q ≠ 42) : d.Q e W base (fun k => ok k ∧ k ≠ g) v xs := by
  obtain ⟨A0, c0, A1, c1, A2, c2, hb, hg, hr0, hr1, hr2⟩ := h
  exact Kd.Q_types ho hb ht
theorem IsS42.own_neQ {w0 W : World} {g : Nat} {f0 : List Int} {f1 : List (S74)} {f2 : List (S74)} {f3 : Bool} {f4 : Int} {α : Type} {d : Kd α} {e : Nat} {base : Nat} {ok : Nat → Prop} {v : Value} {xs : List α} (h : IsS42 w0 W g f0 f1 f2 f3 f4) (ho : d.Q e W base ok v xs) (ht : e ≠ 42) : some g ≠ v.ownBlock := by
  obtain ⟨A0, c0, A1, c1, A2, c2, hb, hg, hr0, hr1, hr2⟩ := h
  exact Kd.Q_ne ho hb ht
theorem IsS42.apartS {w0 W : World} {g : Nat} {f0 : List Int} {f1 : List (S74)} {f2 : List (S74)} {f3 : Bool} {f4 : Int} {α : Type} {d : Kd α} {e : Nat} {base : Nat} {ok : Nat → Prop} {v : Value} {xs : List α} (h : IsS42 w0 W g f0 f1 f2 f3 f4) (ho : d.S e W base ok v xs) (ht : ∀ q, q ∈ e :: d.E → q ≠ 42) : d.S e W base (fun k => ok k ∧ k ≠ g) v xs := by
  obtain ⟨A0, c0, A1, c1, A2, c2, hb, hg, hr0, hr1, hr2⟩ := h
  exact Kd.S_types ho hb ht
theorem IsS42.own_neS {w0 W : World} {g : Nat} {f0 : List Int} {f1 : List (S74)} {f2 : List (S74)} {f3 : Bool} {f4 : Int} {α : Type} {d : Kd α} {e : Nat} {base : Nat} {ok : Nat → Prop} {v : Value} {xs : List α} (h : IsS42 w0 W g f0 f1 f2 f3 f4) (ho : d.S e W base ok v xs) (ht : e ≠ 42) : some g ≠ v.ownBlock := by
  obtain ⟨A0, c0, A1, c1, A2, c2, hb, hg, hr0, hr1, hr2⟩ := h
  exact Kd.S_ne ho hb ht
theorem IsS42.lt {w0 W : World} {g : Nat} {f0 : List Int} {f1 : List (S74)} {f2 : List (S74)} {f3 : Bool} {f4 : Int} (h : IsS42 w0 W g f0 f1 f2 f3 f4) : g < W.heap.size := by
  obtain ⟨A0, c0, A1, c1, A2, c2, hb, hg, hr0, hr1, hr2⟩ := h
  exact blk_lt hb
theorem IsS42.ge {w0 W : World} {g : Nat} {f0 : List Int} {f1 : List (S74)} {f2 : List (S74)} {f3 : Bool} {f4 : Int} (h : IsS42 w0 W g f0 f1 f2 f3 f4) : w0.heap.size ≤ g := by
  obtain ⟨A0, c0, A1, c1, A2, c2, hb, hg, hr0, hr1, hr2⟩ := h
  exact hg
theorem IsS42.ne_blk {w0 W : World} {g : Nat} {f0 : List Int} {f1 : List (S74)} {f2 : List (S74)} {f3 : Bool} {f4 : Int} {a : Nat} {cs : Array Value} {t : TypeId} {fr : Nat × Nat} (h : IsS42 w0 W g f0 f1 f2 f3 f4) (hb2 : W.heap[a]? = some (.cells cs t fr)) (ht : t ≠ 42) : g ≠ a := by
  obtain ⟨A0, c0, A1, c1, A2, c2, hb, hg, hr0, hr1, hr2⟩ := h
  rintro rfl
  rw [hb] at hb2
  injection hb2 with hb2
  injection hb2 with _ ht2
  exact ht ht2.symm
theorem IsS42.far {w0 W : World} {g : Nat} {f0 : List Int} {f1 : List (S74)} {f2 : List (S74)} {f3 : Bool} {f4 : Int} {p : Addr} (h : IsS42 w0 W g f0 f1 f2 f3 f4) (hne : g ≠ p.block) (u : Value) : IsS42 w0 (W.setCell p u) g f0 f1 f2 f3 f4 := by
  obtain ⟨A0, c0, A1, c1, A2, c2, hb, hg, hr0, hr1, hr2⟩ := h
  exact ⟨A0, c0, A1, c1, A2, c2, blk_far hb hne u, hg, hr0, hr1, hr2⟩
theorem cellS42_0 {W : World} {g : Nat} {A0 : Option Addr} {c0 : Nat} {A1 : Option Addr} {c1 : Nat} {A2 : Option Addr} {c2 : Nat} {f0 : List Int} {f1 : List (S74)} {f2 : List (S74)} {f3 : Bool} {f4 : Int} (h : W.heap[g]? = some (.cells #[.slice A0 f0.length c0, .slice A1 f1.length c1, .slice A2 f2.length c2, .bool f3, .int .i64 f4] 42 (0, 0))) : W.cell? ⟨g, 0, none⟩ = some (.slice A0 f0.length c0) := (blk_cell h 0).trans rfl
theorem cellS42_1 {W : World} {g : Nat} {A0 : Option Addr} {c0 : Nat} {A1 : Option Addr} {c1 : Nat} {A2 : Option Addr} {c2 : Nat} {f0 : List Int} {f1 : List (S74)} {f2 : List (S74)} {f3 : Bool} {f4 : Int} (h : W.heap[g]? = some (.cells #[.slice A0 f0.length c0, .slice A1 f1.length c1, .slice A2 f2.length c2, .bool f3, .int .i64 f4] 42 (0, 0))) : W.cell? ⟨g, 1, none⟩ = some (.slice A1 f1.length c1) := (blk_cell h 1).trans rfl
theorem cellS42_2 {W : World} {g : Nat} {A0 : Option Addr} {c0 : Nat} {A1 : Option Addr} {c1 : Nat} {A2 : Option Addr} {c2 : Nat} {f0 : List Int} {f1 : List (S74)} {f2 : List (S74)} {f3 : Bool} {f4 : Int} (h : W.heap[g]? = some (.cells #[.slice A0 f0.length c0, .slice A1 f1.length c1, .slice A2 f2.length c2, .bool f3, .int .i64 f4] 42 (0, 0))) : W.cell? ⟨g, 2, none⟩ = some (.slice A2 f2.length c2) := (blk_cell h 2).trans rfl
theorem cellS42_3 {W : World} {g : Nat} {A0 : Option Addr} {c0 : Nat} {A1 : Option Addr} {c1 : Nat} {A2 : Option Addr} {c2 : Nat} {f0 : List Int} {f1 : List (S74)} {f2 : List (S74)} {f3 : Bool} {f4 : Int} (h : W.heap[g]? = some (.cells #[.slice A0 f0.length c0, .slice A1 f1.length c1, .slice A2 f2.length c2, .bool f3, .int .i64 f4] 42 (0, 0))) : W.cell? ⟨g, 3, none⟩ = some (.bool f3) := (blk_cell h 3).trans rfl
theorem IsS42.set_3 {w0 W : World} {g : Nat} {f0 : List Int} {f1 : List (S74)} {f2 : List (S74)} {f3 : Bool} {f4 : Int} (h : IsS42 w0 W g f0 f1 f2 f3 f4) (x : Bool) : IsS42 w0 (W.setCell ⟨g, 3, none⟩ (.bool x)) g f0 f1 f2 x f4 := by
  obtain ⟨A0, c0, A1, c1, A2, c2, hb, hg, hr0, hr1, hr2⟩ := h
  exact ⟨A0, c0, A1, c1, A2, c2, by simpa using blk_set hb 3 (.bool x), hg, hr0, hr1, hr2⟩
theorem cellS42_4 {W : World} {g : Nat} {A0 : Option Addr} {c0 : Nat} {A1 : Option Addr} {c1 : Nat} {A2 : Option Addr} {c2 : Nat} {f0 : List Int} {f1 : List (S74)} {f2 : List (S74)} {f3 : Bool} {f4 : Int} (h : W.heap[g]? = some (.cells #[.slice A0 f0.length c0, .slice A1 f1.length c1, .slice A2 f2.length c2, .bool f3, .int .i64 f4] 42 (0, 0))) : W.cell? ⟨g, 4, none⟩ = some (.int .i64 f4) := (blk_cell h 4).trans rfl
theorem IsS42.set_4 {w0 W : World} {g : Nat} {f0 : List Int} {f1 : List (S74)} {f2 : List (S74)} {f3 : Bool} {f4 : Int} (h : IsS42 w0 W g f0 f1 f2 f3 f4) (x : Int) : IsS42 w0 (W.setCell ⟨g, 4, none⟩ (.int .i64 x)) g f0 f1 f2 f3 x := by
  obtain ⟨A0, c0, A1, c1, A2, c2, hb, hg, hr0, hr1, hr2⟩ := h
  exact ⟨A0, c0, A1, c1, A2, c2, by simpa using blk_set hb 4 (.int .i64 x), hg, hr0, hr1, hr2⟩
theorem IsS42.new (w0 W : World) (A0 : Option Addr) (c0 : Nat) (A1 : Option Addr) (c1 : Nat) (A2 : Option Addr) (c2 : Nat) (f0 : List Int) (f1 : List (S74)) (f2 : List (S74)) (f3 : Bool) (f4 : Int) (hB : Below w0.heap.size w0 W) (hr0 : Kd.C (Kd.int .u8) w0 A0 f0.length f0) (hr1 : Kd.C k74 w0 A1 f1.length f1) (hr2 : Kd.C k74 w0 A2 f2.length f2) : IsS42 w0 (W.alloc (.cells #[.slice A0 f0.length c0, .slice A1 f1.length c1, .slice A2 f2.length c2, .bool f3, .int .i64 f4] 42)) W.heap.size f0 f1 f2 f3 f4 := ⟨A0, c0, A1, c1, A2, c2, by simpa using heap_alloc_new W _, hB.size, hr0, hr1, hr2⟩

/-! ### undercroftref02_Disk_Size: function 32 -/
def undercroftref02_Disk_Size.f (s0_0 : List Int) (s0_1 : List (S74)) (s0_2 : List (S74)) (s0_3 : Bool) (s0_4 : Int) : Option (Int × Bool × Int) := some (wrap64 ((s0_0.length : Int) / 256), s0_3, s0_4)
set_option maxHeartbeats 8000000 in
set_option maxRecDepth 100000 in
theorem undercroftref02_Disk_Size.calls (g : Nat) (s0_0 : List Int) (s0_1 : List (S74)) (s0_2 : List (S74)) (s0_3 : Bool) (s0_4 : Int) (r1 : Int) (r2 : Bool) (r3 : Int) (w0 w : World) (hI : IsS42 w0 w g s0_0 s0_1 s0_2 s0_3 s0_4) (hB : Below w0.heap.size w0 w) (h : undercroftref02_Disk_Size.f s0_0 s0_1 s0_2 s0_3 s0_4 = some (r1, r2, r3)) :
    Calls Try.prog 32 #[.pointer (some ⟨g, 0, none⟩)] w fun e w' => e = .returned (.int .i64 r1) ∧ IsS42 w0 w' g s0_0 s0_1 s0_2 r2 r3 ∧ Below w0.heap.size w0 w' ∧ KeepBut w w' g none := by
  have HI0 := Aside0.mk hI
  have HK := Aside0.mk (KeepBut.refl w g none)
  have HL := Aside0.mk hB.size
  clear hI
  have HW0 := Aside0.mk hB.size
  have HB := Aside0.mk hB
  clear hB
  have H : (some (wrap64 ((s0_0.length : Int) / 256), s0_3, s0_4)) = some (r1, r2, r3) := h
  clear h
  simp only [Option.some.injEq, Prod.mk.injEq] at H
  obtain ⟨rfl, rfl, rfl⟩ := H
  obtain ⟨ASz2_0, cSz2_0, ASz2_1, cSz2_1, ASz2_2, cSz2_2, HGz2, hgz2, HSz2_0, HSz2_1, HSz2_2⟩ := HI0.out
  have hcz2_0 := cellS42_0 HGz2
  have hcz2_1 := cellS42_1 HGz2
  have hcz2_2 := cellS42_2 HGz2
  have hcz2_3 := cellS42_3 HGz2
  have hcz2_4 := cellS42_4 HGz2
  have hfz2_3 := blk_frozen HGz2 3
  have hfz2_4 := blk_frozen HGz2 4
  clear HGz2 hgz2
  go_enter Try.func32, Try.ntmps32
  go_wp2
  go_ret
  exact ⟨by first | rfl | (simp [errW_none, errW_some] <;> rfl) | (simp [*, errW_none, errW_some] <;> rfl), by repeat (first | (with_reducible first | exact HI0.out | apply IsS42.alloc | apply IsS42.drewN | apply IsS42.drew | apply IsS42.set_3 | apply IsS42.set_4) | exact HI0.out), by repeat (first | (with_reducible first | exact HB.out | apply below_alloc | apply pw_below_drewN | apply below_drew1 | refine below_set ?_ (IsS42.ge HI0.out)) | exact HB.out), by repeat (first | (with_reducible first | exact HK.out | apply KeepBut.set_ | apply keep_drewN | apply keep_drew | apply keep_alloc) | exact HK.out)⟩

end Go.Proofs.Ytbpkjkdbijifbaa.U
