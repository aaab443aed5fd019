/- Written by uprint.py (ours) for this seat: functions of the translation as Lean functions, and what their calls do. Not trusted: Lean checks it. -/
import Derived.Test.YtlhpejdbmbpmhaaUx0
namespace Go.Proofs.Ytlhpejdbmbpmhaa.U
open Go.RowKit Go.Proofs.YtlhpejdbmbpmhaaW.PrintWords Go.Proofs.YtlhpejdbmbpmhaaW.PrintLast Go.Proofs.YtlhpejdbmbpmhaaW.PrintMore
attribute [local go_sem] max2_int min2_int max_two min_two max_three min_three max_four min_four   -- for this text's walks alone
set_option linter.unusedVariables false
set_option linter.unusedSimpArgs false

/-! ### bits_OnesCount8: function 39 (given) -/
def bits_OnesCount8.f (a0 : Int) : Option Int := if 0 ≤ a0 ∧ a0 < 256 then some (X.pop8 a0.toNat : Int) else none
set_option maxHeartbeats 400000 in
set_option maxRecDepth 100000 in
theorem bits_OnesCount8.calls (a0 : Int) (r : Int) (w : World) (h : bits_OnesCount8.f a0 = some r) :
    Calls Try.prog 39 #[.int .u8 a0] w fun e w' => e = .returned (.int .i64 r) ∧ w' = w := by
  unfold bits_OnesCount8.f at h
  by_cases hb : 0 ≤ a0 ∧ a0 < 256
  rotate_left
  · rw [if_neg hb] at h
    cases h
  rw [if_pos hb] at h
  have HR := Aside0.mk h
  clear h
  obtain ⟨h0, h1⟩ := hb
  go_enter Try.func39, Try.ntmps39
  go_wp2
  go_ret
  obtain rfl := Option.some.inj HR.out
  refine ⟨congrArg (fun z => Ending.returned (.int .i64 z)) ?_, rfl⟩
  clear HR
  obtain ⟨n, rfl⟩ := X.byte_fin h0 h1
  revert h0 h1
  revert n
  decide +kernel

end Go.Proofs.Ytlhpejdbmbpmhaa.U
