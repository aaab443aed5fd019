/- Written by uprint.py (ours) for this seat: functions of the translation as Lean functions, and what their calls do. Not trusted: Lean checks it. -/
import Derived.Test.YtdailnkioldbnaaUx0
import Derived.Test.YtdailnkioldbnaaUx4
import Derived.Test.YtdailnkioldbnaaUx5
import Derived.Test.YtdailnkioldbnaaUx6
namespace Go.Proofs.Ytdailnkioldbnaa.U
open Go.RowKit Go.Proofs.YtdailnkioldbnaaW.PrintWords Go.Proofs.YtdailnkioldbnaaW.PrintLast Go.Proofs.YtdailnkioldbnaaW.PrintMore
attribute [local go_sem] max2_int min2_int max_two min_two max_three min_three max_four min_four   -- for this text's walks alone
set_option linter.unusedVariables false
set_option linter.unusedSimpArgs false

/-! ### undercroftlaw01_alive: function 10 (given) -/
def undercroftlaw01_alive.f : Option Bool := some true
theorem alive_number : crc_Number.f 3 [2, 1] = some (258, true) := by decide +kernel
theorem alive_sum : crc_Sum.f [49, 50, 51, 52, 53, 54, 55, 56, 57] = some 3808858755 := by decide +kernel
theorem alive_bytes : crc_Bytes.f 3 258 2 = some [2, 1] := by decide +kernel
set_option maxHeartbeats 800000 in
set_option maxRecDepth 100000 in
theorem undercroftlaw01_alive.calls (r : Bool) (w : World) (h : undercroftlaw01_alive.f = some r) :
    Calls Try.prog 10 #[] w fun e w' => e = .returned (.bool r) ∧ Below w.heap.size w w' := by
  obtain rfl := Option.some.inj h
  have kc := fun (w : World) (C : Array Value) (n c : Nat) => Lib.run_convert_bytes_const (P := Try.prog) w 22 5 C n c Try.underlying22 Try.underlying5
  go_enter Try.func10, Try.ntmps10
  go_wp2_with fail
  refine (crc_Number.calls 3 _ _ [2, 1] 258 true _ (X.C_new rfl (by decide)) (by decide) alive_number).mono ?_
  rintro e w1 ⟨rfl, hd⟩
  have HB1 := Aside0.mk (((Below.refl w.heap.size w).alloc (Nat.le_refl _) (.cells #[.int .u8 2, .int .u8 1] 5 (0, 0))).trans (hd.below.mono (by simp)))
  clear hd
  go_wp2_with fail
  refine (crc_Sum.calls _ _ [49, 50, 51, 52, 53, 54, 55, 56, 57] 3808858755 _ (X.C_new rfl (by decide)) (by decide) alive_sum).mono ?_
  rintro e w2 ⟨rfl, hd⟩
  have HB2 := Aside0.mk ((HB1.out.alloc HB1.out.size _).trans (hd.mono (by have := HB1.out.size; simp; omega)))
  clear hd HB1
  go_wp2_with fail
  refine (crc_Bytes.calls 3 258 2 [2, 1] _ alive_bytes).mono ?_
  rintro e w3 ⟨v, rfl, ho, hd⟩
  have HB3 := Aside0.mk (HB2.out.trans (hd.mono HB2.out.size))
  clear hd HB2
  obtain ⟨Ao, co, rfl⟩ := Kd.R_slice ho
  have hcv : (convert 22 9 (.slice Ao 2 co)).run Try.prog w3 = .ok (.string ⟨#[2, 1]⟩) w3 := Kd.C_string (P := Try.prog) (A := Ao) (c := co) Try.underlying22 Try.underlying5 Try.underlying9 (Kd.R_reads' ho).2.2
  clear ho
  go_wp2
  go_ret
  exact ⟨by first | rfl | (simp; done), HB3.out⟩

end Go.Proofs.Ytdailnkioldbnaa.U
