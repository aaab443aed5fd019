/- Written by uprint.py (ours) for this seat: functions of the translation as Lean functions, and what their calls do. Not trusted: Lean checks it. -/
import Derived.Test.YtbpkjkdbijifbaaUx0
import Derived.Test.YtbpkjkdbijifbaaUx1
namespace Go.Proofs.Ytbpkjkdbijifbaa.U
open Go.RowKit Go.Proofs.YtbpkjkdbijifbaaW.PrintWords Go.Proofs.YtbpkjkdbijifbaaW.PrintLast Go.Proofs.YtbpkjkdbijifbaaW.PrintMore
attribute [local go_sem] max2_int min2_int max_two min_two max_three min_three max_four min_four   -- for this text's walks alone
set_option linter.unusedVariables false
set_option linter.unusedSimpArgs false

-- GIVEN: function 25 ((*undercroft/disk.Disk).Fuse)
theorem disk_Fuse.calls (p : Nat) (c0 c1 c2 c3 : Value) (b : Bool) (l : Nat) (n : Int) (w : World) (hb : X.Blk w p #[c0, c1, c2, c3, .bool b, .int .i64 (l : Int)] 66) (hbl : (b && decide (l = 0)) = false) (hn : n ≤ 9223372036854775807) :
    Calls Try.prog 25 #[.pointer (some ⟨p, 0, none⟩), .int .i64 n] w fun e w' => e = .returned (.tuple #[]) ∧ X.Blk w' p #[c0, c1, c2, c3, .bool (decide (0 ≤ n)), .int .i64 (n.toNat : Int)] 66 ∧ X.Turn (fun k => k = p) w w' := by
  have HB := Aside0.mk hb
  have HBL := Aside0.mk hbl
  have h4 := hb.cell 4 _ rfl
  have h5 := hb.cell 5 _ rfl
  have f4 := hb.free 4
  have f5 := hb.free 5
  clear hb hbl
  have fin : ∀ u v : Value, X.Blk ((w.setCell ⟨p, 4, none⟩ u).setCell ⟨p, 5, none⟩ v) p #[c0, c1, c2, c3, u, v] 66 ∧ X.Turn (fun k => k = p) w ((w.setCell ⟨p, 4, none⟩ u).setCell ⟨p, 5, none⟩ v) := fun u v =>
    ⟨(HB.out.set 4 u).set 5 v, (X.Turn.setCell w ⟨p, 4, none⟩ u).trans (X.Turn.setCell _ ⟨p, 5, none⟩ v) (fun _ h => .inl h)⟩
  have FIN := Aside0.mk fin
  clear fin
  by_cases h : 0 ≤ n
  · have q : decide (0 ≤ n) = true := decide_eq_true h
    have hm : max n 0 = n := by omega
    have HT : Aside0 (n = (n.toNat : Int)) := ⟨by omega⟩
    go_enter Try.func25, Try.ntmps25
    go_wp2_with ((go_at_call 41; (with_reducible refine (disk_blown.calls p c0 c1 c2 c3 b l w HB.out).mono ?_); (try rw [HBL.out]); rintro e w' ⟨rfl, rfl⟩))
    go_end0
    refine ⟨rfl, ?_⟩
    rw [q]
    first | (rw [← HT.out]; exact FIN.out _ _) | (rw [HT.out]; exact FIN.out _ _)
  · have q : decide (0 ≤ n) = false := decide_eq_false h
    have hm : max n 0 = 0 := by omega
    have HT : Aside0 ((n.toNat : Int) = 0) := ⟨by omega⟩
    go_enter Try.func25, Try.ntmps25
    go_wp2_with ((go_at_call 41; (with_reducible refine (disk_blown.calls p c0 c1 c2 c3 b l w HB.out).mono ?_); (try rw [HBL.out]); rintro e w' ⟨rfl, rfl⟩))
    go_end0
    refine ⟨rfl, ?_⟩
    rw [q]
    first | (rw [← HT.out]; exact FIN.out _ _) | (rw [HT.out]; exact FIN.out _ _)
theorem disk_Fuse_nil.calls (n : Int) (w : World) : Calls Try.prog 25 #[.pointer none, .int .i64 n] w fun e w' => e = .returned (.tuple #[]) ∧ w = w' := by
  go_enter Try.func25, Try.ntmps25
  go_wp2
  refine bodyPost_ret (results_none rfl _ _ _) rfl ?_
  exact ⟨rfl, rfl⟩
theorem disk_Fuse_blown.calls (p : Nat) (c0 c1 c2 c3 : Value) (n : Int) (w : World) (hb : X.Blk w p #[c0, c1, c2, c3, .bool true, .int .i64 0] 66) :
    Calls Try.prog 25 #[.pointer (some ⟨p, 0, none⟩), .int .i64 n] w fun e w' => e = .returned (.tuple #[]) ∧ w = w' := by
  have h := disk_blown.calls p c0 c1 c2 c3 true 0 w hb
  go_enter Try.func25, Try.ntmps25
  go_wp2_with fail
  refine h.mono ?_
  rintro e w' ⟨rfl, rfl⟩
  go_wp2
  refine bodyPost_ret (results_none rfl _ _ _) rfl ?_
  exact ⟨rfl, rfl⟩
theorem disk_Fuse.part (w0 w : World) (L : List X.Res) (p n : Nat) (s : X.DS) (k : Int) (h : X.Lies w0 w (.disk p n s :: L)) (hk : k ≤ 9223372036854775807) :
    Calls Try.prog 25 #[.pointer (some ⟨p, 0, none⟩), .int .i64 k] w fun e w' => e = .returned (.tuple #[]) ∧ X.Lies w0 w' (.disk p n (s.fuse k) :: L) := by
  obtain ⟨F, G, hp, hd, -⟩ := h.disk
  obtain ⟨sv, pv, gl, gg, fg, hp⟩ := hp
  rcases hbl : (s.set && decide (s.left = 0)) with _ | _
  · refine (disk_Fuse.calls p _ _ _ _ s.set s.left k w hp.box hbl hk).mono ?_
    rintro e w' ⟨rfl, hb, ht⟩
    have e1 : s.fuse k = { s with set := decide (0 ≤ k), left := k.toNat } := by unfold X.DS.fuse; rw [hbl]; rfl
    rw [e1]
    refine ⟨rfl, hd _ _ ⟨F, G, ⟨sv, pv, gl, gg, fg, hp.reboxed ht (s' := { s with set := decide (0 ≤ k), left := k.toNat }) hb rfl rfl hp.pd ?_⟩, ht.mono (fun j hj => by subst hj; exact hp.fp), fun _ h => .inl h, fun _ h => .inl h⟩⟩
    exact ⟨hp.ok.len, hp.ok.n1, hp.ok.n2, hp.ok.u8, hp.ok.pend, hp.ok.ghosts, by show k.toNat ≤ _; omega⟩
  · have e1 : s.fuse k = s := by unfold X.DS.fuse; rw [hbl]; rfl
    have e2 : s.set = true := by rw [Bool.and_eq_true] at hbl; exact hbl.1
    have e3 : s.left = 0 := by rw [Bool.and_eq_true] at hbl; exact of_decide_eq_true hbl.2
    have hb := hp.box
    rw [e2, e3] at hb
    refine (disk_Fuse_blown.calls p _ _ _ _ k w hb).mono ?_
    rintro e w' ⟨rfl, rfl⟩
    rw [e1]
    exact ⟨rfl, h⟩

end Go.Proofs.Ytbpkjkdbijifbaa.U
