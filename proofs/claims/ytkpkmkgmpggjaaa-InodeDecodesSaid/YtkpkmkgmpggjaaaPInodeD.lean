/- What the document's reading of an inode comes to. -/
import Derived.Test.YtkpkmkgmpggjaaaUx16
import Derived.Test.YtkpkmkgmpggjaaaUx17
import Derived.Test.YtkpkmkgmpggjaaaPInodeR
import Derived.Test.YtkpkmkgmpggjaaaPInode2
namespace Go.Proofs.Ytkpkmkgmpggjaaa.Pure
open Go Go.RowKit Go.Proofs.Ytkpkmkgmpggjaaa.U Go.Proofs.YtkpkmkgmpggjaaaW.PrintWords Go.Proofs.YtkpkmkgmpggjaaaW.PrintLast Go.Proofs.YtkpkmkgmpggjaaaW.PrintMore
set_option linter.unusedVariables false
set_option linter.unusedSimpArgs false
theorem at_part (l : List Int) (hl : X.u8all l = true) (hn : l.length = 128) (i m : Nat) (hj : i + m ≤ 128) (h4 : m ≤ 4) (k : Nat) (hk : 8 < k) : undercroftref01_At.f k l (i : Int) (m : Int) = some (num ((l.take (i + m)).drop i) : Int) := by
  obtain ⟨h1, h2⟩ := part_lt l hl hn i (i + m) m hj (by omega) h4
  have hw : wrap64 ((i : Int) + (m : Int)) = ((i + m : Nat) : Int) := by rw [wrap64_id (by omega) (by omega)]; omega
  unfold undercroftref01_At.f
  rw [hw, if_pos (by omega), if_pos (by omega), if_pos (by omega), Int.toNat_natCast, Int.toNat_natCast, refNumber_f _ (X.u8all_drop (X.u8all_take hl (i + m)) i) k hk, Option.bind_some, if_pos (by omega)]
  show some (wrap64 _) = _
  rw [wrap64_id (by omega) (by omega)]
theorem refDecode_f (l : List Int) (hl : X.u8all l = true) (n : Int) (k : Nat) (hk : 420 < k) : undercroftref09_Decode.f k l n = some (inoTup (decOf l n)) := by
  obtain ⟨k, rfl⟩ : ∃ m, k = m + 1 := ⟨k - 1, by omega⟩
  have hbad : undercroftref09_Decode.j0 (k + 1) l n true = some (inoTup (Ino.zero, 1)) := by unfold undercroftref09_Decode.j0; dsimp only; rw [if_pos rfl]; rfl
  unfold undercroftref09_Decode.f decOf
  by_cases h1 : n < 0
  · rw [if_pos h1, if_neg (by omega), hbad]
  by_cases h2 : n > 1048576
  · rw [if_neg h1, decide_eq_true h2, if_neg (by omega), hbad]
  rw [if_neg h1, decide_eq_false h2, if_pos (by omega)]
  unfold undercroftref09_Decode.j0
  dsimp only
  rw [if_neg (by decide)]
  by_cases h128 : l.length = 128
  · rw [if_pos (by omega), if_pos h128, if_pos (by decide)]
    by_cases hz : l = List.replicate 128 0
    · rw [if_pos ((str_inj hl (zeros_u8' 128)).2 hz), if_pos hz]
      rfl
    · rw [if_neg (fun h => hz ((str_inj hl (zeros_u8' 128)).1 h)), if_neg hz]
      have h0 := rd_u8 hl 0 (by omega)
      have hw : wrap64 (rd l 0) = rd l 0 := wrap64_id (by have : rd l 0 = rd l ((0 : Nat) : Int) := rfl; omega) (by have : rd l 0 = rd l ((0 : Nat) : Int) := rfl; omega)
      have a1 : undercroftref01_At.f k l 2 2 = some (num ((l.take 4).drop 2) : Int) := at_part l hl h128 2 2 (by decide) (by decide) k (by omega)
      have a2 : undercroftref01_At.f k l 4 4 = some (num ((l.take 8).drop 4) : Int) := at_part l hl h128 4 4 (by decide) (by decide) k (by omega)
      have a3 : undercroftref01_At.f k l 8 4 = some (num ((l.take 12).drop 8) : Int) := at_part l hl h128 8 4 (by decide) (by decide) k (by omega)
      rw [if_pos (by omega), if_pos (by omega), a1, Option.bind_some, a2, Option.bind_some, a3, Option.bind_some, Option.bind_some, if_pos (by decide), if_pos (by omega), if_pos (by rw [List.length_drop, List.length_take]; simp; omega), Option.bind_some, hw, List.nil_append]
      have he' : undercroftref09_Encode.f k (rd l 0) (num ((l.take 4).drop 2) : Int) (num ((l.take 8).drop 4) : Int) (rd l 1 == 1) (num ((l.take 12).drop 8) : Int) ((l.take 72).drop 12) n = some (encOf (inoParse l) n) := refEncode_f (inoParse l) n k (by omega)
      rw [he', Option.bind_some]
      have hu := encOf_u8 (inoParse l) (parse_wf l hl h128).body n
      by_cases h0 : (encOf (inoParse l) n).2 = 0
      · rw [if_pos h0]
        by_cases h1 : (encOf (inoParse l) n).1 = l
        · rw [if_pos ((str_inj hu hl).2 h1), if_pos ⟨h0, h1⟩]
          rfl
        · rw [if_neg (fun h => h1 ((str_inj hu hl).1 h)), if_neg (fun h => h1 h.2)]
          rfl
      · rw [if_neg h0, if_neg (fun h => h0 h.1)]
        rfl
  · rw [if_neg (by omega), if_neg h128]
    rfl
end Go.Proofs.Ytkpkmkgmpggjaaa.Pure
