/- Written by uprint.py (ours) for this seat: functions of the translation as Lean functions, and what their calls do. Not trusted: Lean checks it. -/
import Derived.Test.YtbpkjkdbijifbaaUx0
namespace Go.Proofs.Ytbpkjkdbijifbaa.U
open Go.RowKit Go.Proofs.YtbpkjkdbijifbaaW.PrintWords Go.Proofs.YtbpkjkdbijifbaaW.PrintLast Go.Proofs.YtbpkjkdbijifbaaW.PrintMore
attribute [local go_sem] max2_int min2_int max_two min_two max_three min_three max_four min_four   -- for this text's walks alone
set_option linter.unusedVariables false
set_option linter.unusedSimpArgs false

-- GIVEN: function 45 ((*undercroft/undercroftref02.Disk).Fuse)
theorem undercroftref02_Disk_Fuse.calls (w0 w : World) (L : List X.Res) (p n : Nat) (s : X.DS) (k : Int) (h : X.Lies w0 w (.rdisk p n s :: L)) (hk : k ≤ 9223372036854775807) :
    Calls Try.prog 45 #[.pointer (some ⟨p, 0, none⟩), .int .i64 k] w fun e w' => e = .returned (.tuple #[]) ∧ X.Lies w0 w' (.rdisk p n (s.fuse k) :: L) := by
  obtain ⟨v0, v1, v2, hok, h⟩ := h.rdisk
  obtain ⟨sb, sp, sg, st, sl⟩ := s
  have h3 := (h.boxed 0 rfl).cell 3 _ rfl
  have h4 := (h.boxed 0 rfl).cell 4 _ rfl
  have f3 := (h.boxed 0 rfl).free 3
  have f4 := (h.boxed 0 rfl).free 4
  have HS := Aside0.mk h
  have HOK := Aside0.mk hok
  simp only at h3 h4
  clear h hok
  have HF : Aside0 (X.Lies w0 ((w.setCell ⟨p, 3, none⟩ (.bool (decide (0 ≤ k)))).setCell ⟨p, 4, none⟩ (.int .i64 (max k 0))) (.rdisk p n ⟨sb, sp, sg, decide (0 ≤ k), k.toNat⟩ :: L)) := ⟨by
    refine X.Lies.mkRdisk (v0 := v0) (v1 := v1) (v2 := v2) ⟨HOK.out.len, HOK.out.n1, HOK.out.n2, HOK.out.u8, HOK.out.pend, HOK.out.ghosts, by show k.toNat ≤ _; omega⟩ ?_
    have e : ((k.toNat : Nat) : Int) = max k 0 := by omega
    rw [show ((X.DS.mk sb sp sg (decide (0 ≤ k)) k.toNat).left : Int) = max k 0 from e]
    exact (HS.out.set 3 (.bool (decide (0 ≤ k)))).set 4 (.int .i64 (max k 0))⟩
  by_cases hb : st = true ∧ sl = 0
  · obtain ⟨rfl, rfl⟩ := hb
    go_enter Try.func45, Try.ntmps45
    go_wp2
    refine bodyPost_ret (results_none rfl _ _ _) rfl ?_
    exact ⟨rfl, X.Lies.mkRdisk HOK.out HS.out⟩
  · have e2 : X.DS.fuse ⟨sb, sp, sg, st, sl⟩ k = ⟨sb, sp, sg, decide (0 ≤ k), k.toNat⟩ := by
      unfold X.DS.fuse
      rw [if_neg (fun h => hb (by simp only [Bool.and_eq_true, decide_eq_true_eq] at h; exact h))]
    rw [e2]
    cases st with
    | false =>
      go_enter Try.func45, Try.ntmps45
      go_wp2
      all_goals go_end0
      all_goals refine ⟨rfl, ?_⟩
      all_goals first
        | (have e0 : max k 0 = 0 := by omega
           have e1 : decide (0 ≤ k) = false := decide_eq_false (by omega)
           have h5 := HF.out
           rw [e0] at h5
           first | exact h5 | (simp only [e1] at h5 ⊢; exact h5))
        | (have e0 : max k 0 = k := by omega
           have e1 : decide (0 ≤ k) = true := decide_eq_true (by omega)
           have h5 := HF.out
           rw [e0] at h5
           first | exact h5 | (simp only [e1] at h5 ⊢; exact h5))
    | true =>
      have q1 : ((sl : Int) == 0) = false := beq_eq_false_iff_ne.mpr (fun h => hb ⟨rfl, by omega⟩)
      have q2 : decide (sl = 0) = false := decide_eq_false (fun h => hb ⟨rfl, h⟩)
      go_enter Try.func45, Try.ntmps45
      go_wp2
      all_goals go_end0
      all_goals refine ⟨rfl, ?_⟩
      all_goals first
        | (have e0 : max k 0 = 0 := by omega
           have e1 : decide (0 ≤ k) = false := decide_eq_false (by omega)
           have h5 := HF.out
           rw [e0] at h5
           first | exact h5 | (simp only [e1] at h5 ⊢; exact h5))
        | (have e0 : max k 0 = k := by omega
           have e1 : decide (0 ≤ k) = true := decide_eq_true (by omega)
           have h5 := HF.out
           rw [e0] at h5
           first | exact h5 | (simp only [e1] at h5 ⊢; exact h5))

end Go.Proofs.Ytbpkjkdbijifbaa.U
