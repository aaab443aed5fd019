/- Written by uprint.py (ours) for this seat: functions of the translation as Lean functions, and what their calls do. Not trusted: Lean checks it. -/
import Derived.Test.YtiaefbngegmpaaaUx0
namespace Go.Proofs.Ytiaefbngegmpaaa.U
open Go.RowKit Go.Proofs.YtiaefbngegmpaaaW.PrintWords Go.Proofs.YtiaefbngegmpaaaW.PrintLast Go.Proofs.YtiaefbngegmpaaaW.PrintMore
attribute [local go_sem] max2_int min2_int max_two min_two max_three min_three max_four min_four   -- for this text's walks alone
set_option linter.unusedVariables false
set_option linter.unusedSimpArgs false

/-! ### undercroftref06_Layout: function 11 (given) -/
def undercroftref06_Layout.f (a0 : Int) : Option (Int × Int × Int × Int × Int × Int × Int × Int × Int) :=
  if 128 ≤ a0 ∧ a0 ≤ 1024 then some (a0, a0 / 4, 1, 2, 3, 3 + (a0 / 4 + 1) / 2, 32 + a0 / 32, 3 + (a0 / 4 + 1) / 2 + (32 + a0 / 32), 0) else some (0, 0, 0, 0, 0, 0, 0, 0, 1)
set_option maxHeartbeats 400000 in
set_option maxRecDepth 100000 in
theorem undercroftref06_Layout_good (a0 : Int) (w : World) (h1 : 128 ≤ a0) (h2 : a0 ≤ 1024) :
    Calls Try.prog 11 #[.int .i64 a0] w fun e w' => e = .returned (.tuple #[.agg #[.int .i64 a0, .int .i64 (a0 / 4), .int .i64 1, .int .i64 2, .int .i64 3, .int .i64 (3 + (a0 / 4 + 1) / 2), .int .i64 (32 + a0 / 32), .int .i64 (3 + (a0 / 4 + 1) / 2 + (32 + a0 / 32))], .int .i64 0]) ∧ Below w.heap.size w w' := by
  have hu := Try.underlying24
  go_enter Try.func11, Try.ntmps11
  go_wp2
  refine bodyPost_ret (v := .tuple #[.agg #[.int .i64 a0, .int .i64 (a0 / 4), .int .i64 1, .int .i64 2, .int .i64 3, .int .i64 (3 + (a0 / 4 + 1) / 2), .int .i64 (32 + a0 / 32), .int .i64 (3 + (a0 / 4 + 1) / 2 + (32 + a0 / 32))], .int .i64 0]) (by simp [results, Try.results11, go_sem]) rfl ⟨rfl, ?_⟩
  repeat (first | exact Below.refl _ _ | apply below_alloc | apply below_drew1 | refine below_set ?_ (by simp))
set_option maxHeartbeats 400000 in
set_option maxRecDepth 100000 in
theorem undercroftref06_Layout_bad (a0 : Int) (w : World) (h : ¬ (128 ≤ a0 ∧ a0 ≤ 1024)) :
    Calls Try.prog 11 #[.int .i64 a0] w fun e w' => e = .returned (.tuple #[.agg #[.int .i64 0, .int .i64 0, .int .i64 0, .int .i64 0, .int .i64 0, .int .i64 0, .int .i64 0, .int .i64 0], .int .i64 1]) ∧ Below w.heap.size w w' := by
  have hu := Try.underlying24
  by_cases h1 : a0 < 128
  · clear h
    go_enter Try.func11, Try.ntmps11
    go_wp2
    refine bodyPost_ret (v := .tuple #[.agg #[.int .i64 0, .int .i64 0, .int .i64 0, .int .i64 0, .int .i64 0, .int .i64 0, .int .i64 0, .int .i64 0], .int .i64 1]) (by simp [results, Try.results11, go_sem]) rfl ⟨rfl, ?_⟩
    repeat (first | exact Below.refl _ _ | apply below_alloc | apply below_drew1 | refine below_set ?_ (by simp))
  · have h2 : 1024 < a0 := by omega
    clear h
    go_enter Try.func11, Try.ntmps11
    go_wp2
    refine bodyPost_ret (v := .tuple #[.agg #[.int .i64 0, .int .i64 0, .int .i64 0, .int .i64 0, .int .i64 0, .int .i64 0, .int .i64 0, .int .i64 0], .int .i64 1]) (by simp [results, Try.results11, go_sem]) rfl ⟨rfl, ?_⟩
    repeat (first | exact Below.refl _ _ | apply below_alloc | apply below_drew1 | refine below_set ?_ (by simp))
theorem undercroftref06_Layout.calls (a0 : Int) (r1 : Int) (r2 : Int) (r3 : Int) (r4 : Int) (r5 : Int) (r6 : Int) (r7 : Int) (r8 : Int) (r9 : Int) (w : World) (h : undercroftref06_Layout.f a0 = some (r1, r2, r3, r4, r5, r6, r7, r8, r9)) :
    Calls Try.prog 11 #[.int .i64 a0] w fun e w' => e = .returned (.tuple #[.agg #[.int .i64 r1, .int .i64 r2, .int .i64 r3, .int .i64 r4, .int .i64 r5, .int .i64 r6, .int .i64 r7, .int .i64 r8], .int .i64 r9]) ∧ Below w.heap.size w w' := by
  unfold undercroftref06_Layout.f at h
  by_cases hc : 128 ≤ a0 ∧ a0 ≤ 1024
  · rw [if_pos hc] at h
    simp only [Option.some.injEq, Prod.mk.injEq] at h
    obtain ⟨rfl, rfl, rfl, rfl, rfl, rfl, rfl, rfl, rfl⟩ := h
    exact undercroftref06_Layout_good _ w hc.1 hc.2
  · rw [if_neg hc] at h
    simp only [Option.some.injEq, Prod.mk.injEq] at h
    obtain ⟨rfl, rfl, rfl, rfl, rfl, rfl, rfl, rfl, rfl⟩ := h
    exact undercroftref06_Layout_bad a0 w hc

end Go.Proofs.Ytiaefbngegmpaaa.U
