/- PRec2: what this claim uses. Laid by slim.py (ours). -/
import Derived.Test.YtpihpabofgmahaaKUx4
import Derived.Test.YtpihpabofgmahaaKUx11
import Derived.Test.YtpihpabofgmahaaKUx19
import Derived.Test.YtpihpabofgmahaaKUx20
import Derived.Test.YtpihpabofgmahaaKUx24
import Derived.Test.YtpihpabofgmahaaKPRec
import Derived.Test.YtpihpabofgmahaaKPCrc2
import Derived.Test.YtpihpabofgmahaaKPRecE
namespace Go.Proofs.Ytpihpabofgmahaa.Pure
open Go Go.RowKit Go.Proofs.Ytpihpabofgmahaa.U Go.Proofs.YtpihpabofgmahaaW.PrintWords Go.Proofs.YtpihpabofgmahaaW.PrintLast Go.Proofs.YtpihpabofgmahaaW.PrintMore
set_option linter.unusedVariables false
set_option linter.unusedSimpArgs false
theorem prefix_f (l m : List Int) : bytes_HasPrefix.f l m = some (if m.length ≤ l.length then (strOfNums (l.take m.length)).toList == (strOfNums m).toList else false) := by
  unfold bytes_HasPrefix.f
  by_cases h : m.length ≤ l.length
  · rw [if_pos (by omega), if_pos (by omega), if_pos (by omega), if_pos h, Int.toNat_natCast]
    rfl
  · rw [if_neg (by omega), if_neg h]
theorem dec_wf {l : List Int} (hu : X.u8all l = true) {n r : Nat} (h : 20 + 4 * (n + r) ≤ l.length) : wfSlots (decWs l n) (decRs l n r) = true ∧ wfData (decWs l n) = true := by
  have hin : ∀ x : Int, 0 ≤ x → x < 4294967296 → (Lit.int .i64 x).wf = true := by
    intro x h0 h1
    simp [Lit.wf, IntKind.min, IntKind.max, IntKind.bits, IntKind.signed]
    omega
  constructor
  · refine List.all_eq_true.2 (fun b hb => ?_)
    unfold slots3 at hb
    rcases List.mem_append.1 hb with hb | hb
    · obtain ⟨x, hx, rfl⟩ := List.mem_map.1 hb
      obtain ⟨i, hi, rfl⟩ := List.mem_map.1 hx
      have hi' := List.mem_range.1 hi
      have := wordL_lt hu (i := i) (by omega)
      unfold decW
      split
      · exact hin _ (by show (0 : Int) ≤ (wordL l i : Int) - 2147483648; omega) (by show (wordL l i : Int) - 2147483648 < 4294967296; omega)
      · exact hin _ (by show (0 : Int) ≤ (wordL l i : Int); omega) (by show (wordL l i : Int) < 4294967296; omega)
    · obtain ⟨i, hi, rfl⟩ := List.mem_map.1 hb
      have hi' := List.mem_range.1 hi
      have := wordL_lt hu (i := n + i) (by omega)
      exact hin _ (by omega) (by omega)
  · refine List.all_eq_true.2 (fun x hx => ?_)
    obtain ⟨i, hi, rfl⟩ := List.mem_map.1 hx
    unfold decW
    split
    · exact X.u8all_append.2 ⟨by decide, X.u8all_drop (cutL_u8 hu _ _) 4⟩
    · exact cutL_u8 hu _ _
def decOf (l : List Int) (a : Int) : Int × List S43 × List Int × Int × Bool :=
  if l.length < 512 then badT
  else if 58 < cntL l + rcntL l ∨ l.length < (cntL l + 2) * 256 then badT
  else if mayB (decWs l (cntL l)) (decRs l (cntL l) (rcntL l)) = true then
    (if l.take ((cntL l + 2) * 256) = encL a (decWs l (cntL l)) (decRs l (cntL l) (rcntL l)) then (a, decWs l (cntL l), decRs l (cntL l) (rcntL l), ((cntL l + 2 : Nat) : Int), true) else badT)
  else badT
theorem decode_f {l : List Int} (hu : X.u8all l = true) (hm : l.length ≤ 140737488400000) (a : Int) : record_Decode.f l a = some (decOf l a) := by
  unfold record_Decode.f decOf
  rw [if_pos ⟨hu, hm⟩]
  by_cases h1 : l.length < 512
  · rw [if_pos h1, if_pos h1]
  rw [if_neg h1, if_neg h1]
  by_cases h2 : 58 < cntL l + rcntL l ∨ l.length < (cntL l + 2) * 256
  · rw [if_pos h2, if_pos h2]
  rw [if_neg h2, if_neg h2]
  have hw := dec_wf hu (n := cntL l) (r := rcntL l) (by omega)
  rw [encode_total a hw.1 hw.2 (by rw [decWs_length]; omega) (by rw [decRs_length]; omega), Option.bind_some]
  by_cases h3 : mayB (decWs l (cntL l)) (decRs l (cntL l) (rcntL l)) = true
  rotate_left
  · rw [if_neg h3, if_neg h3, if_neg (by decide)]
  have hl := encL_length (seq := a) h3
  rw [decWs_length] at hl
  rw [if_pos h3, if_pos h3, if_pos (show ((encL a (decWs l (cntL l)) (decRs l (cntL l) (rcntL l)), (0 : Int)) : List Int × Int).2 = 0 from rfl)]
  show (bytes_HasPrefix.f l (encL a (decWs l (cntL l)) (decRs l (cntL l) (rcntL l)))).bind _ = _
  rw [prefix_f, hl, if_pos (show (cntL l + 2) * 256 ≤ l.length by omega), Option.bind_some]
  by_cases h4 : l.take ((cntL l + 2) * 256) = encL a (decWs l (cntL l)) (decRs l (cntL l) (rcntL l))
  · have h5 : ((strOfNums (l.take ((cntL l + 2) * 256))).toList == (strOfNums (encL a (decWs l (cntL l)) (decRs l (cntL l) (rcntL l)))).toList) = true := by rw [beq_iff_eq, str_inj (X.u8all_take hu _) (encL_u8 hw.2)]; exact h4
    rw [if_pos h4, if_pos h5]
  · have h5 : ¬ ((strOfNums (l.take ((cntL l + 2) * 256))).toList == (strOfNums (encL a (decWs l (cntL l)) (decRs l (cntL l) (rcntL l)))).toList) = true := by rw [beq_iff_eq, str_inj (X.u8all_take hu _) (encL_u8 hw.2)]; exact h4
    rw [if_neg h4, if_neg h5]
end Go.Proofs.Ytpihpabofgmahaa.Pure
