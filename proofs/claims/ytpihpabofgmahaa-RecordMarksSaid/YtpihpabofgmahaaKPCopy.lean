/- PCopy: what this claim uses. Laid by slim.py (ours). -/
import Derived.Test.YtpihpabofgmahaaKUx13
import Derived.Test.YtpihpabofgmahaaKPRecE
namespace Go.Proofs.Ytpihpabofgmahaa.Pure
open Go Go.RowKit Go.Proofs.Ytpihpabofgmahaa.U Go.Proofs.YtpihpabofgmahaaW.PrintWords Go.Proofs.YtpihpabofgmahaaW.PrintLast Go.Proofs.YtpihpabofgmahaaW.PrintMore
set_option linter.unusedVariables false
set_option linter.unusedSimpArgs false
theorem copy_l0 (a : Int) (ws : List S43) (rs : List Int) (hm : ws.length ≤ 4398046510976) (hd : ∀ x ∈ ws, x.f1.length ≤ 140737488351232) : ∀ (d i k : Nat), i + d = ws.length → d < k →
    undercroftref03_Copy.l0 k (i : Int) a ws rs a (ws.take i) rs = some (a, ws, rs)
  | 0, i, k, hi, hk => by
    obtain ⟨k, rfl⟩ : ∃ m, k = m + 1 := ⟨k - 1, by omega⟩
    rw [undercroftref03_Copy.l0, if_neg (by omega), List.take_of_length_le (by omega)]
  | d + 1, i, k, hi, hk => by
    obtain ⟨k, rfl⟩ : ∃ m, k = m + 1 := ⟨k - 1, by omega⟩
    have hw : wrap64 ((i : Int) + 1) = ((i + 1 : Nat) : Int) := by rw [wrap64_id (by omega) (by omega)]; omega
    have ih := copy_l0 a ws rs hm hd d (i + 1) k (by omega) (by omega)
    have r1 : rd_T43 ws (i : Int) = ws[i]'(by omega) := by unfold rd_T43; rw [Int.toNat_natCast, List.getD_eq_getElem?_getD, List.getElem?_eq_getElem (by omega)]; rfl
    have hx := hd _ (List.getElem_mem (show i < ws.length by omega))
    rw [undercroftref03_Copy.l0, if_pos (by omega), if_pos (by omega), Option.bind_some, r1, if_pos (by rw [List.length_nil]; omega), if_pos (by rw [List.length_take]; omega), hw, List.nil_append]
    rw [List.take_succ_eq_append_getElem (show i < ws.length by omega)] at ih
    exact ih
theorem copy_f (a : Int) (ws : List S43) (rs : List Int) (hm : ws.length ≤ 4398046510976) (hr : rs.length ≤ 17592186043904) (hd : ∀ x ∈ ws, x.f1.length ≤ 140737488351232) (k : Nat) (hk : ws.length < k) : undercroftref03_Copy.f k a ws rs = some (a, ws, rs) := by
  unfold undercroftref03_Copy.f
  rw [Option.bind_some, if_pos (by rw [List.length_nil]; omega), List.nil_append]
  exact copy_l0 a ws rs hm hd ws.length 0 k (by omega) hk
end Go.Proofs.Ytpihpabofgmahaa.Pure
