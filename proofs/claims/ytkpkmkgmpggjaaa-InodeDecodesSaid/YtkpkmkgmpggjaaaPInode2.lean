/- What the document's bytes of an inode come to, and what reading an inode comes to. -/
import Derived.Test.YtkpkmkgmpggjaaaUx6
import Derived.Test.YtkpkmkgmpggjaaaUx7
import Derived.Test.YtkpkmkgmpggjaaaPInode
namespace Go.Proofs.Ytkpkmkgmpggjaaa.Pure
open Go Go.RowKit Go.Proofs.Ytkpkmkgmpggjaaa.U Go.Proofs.YtkpkmkgmpggjaaaW.PrintWords Go.Proofs.YtkpkmkgmpggjaaaW.PrintLast Go.Proofs.YtkpkmkgmpggjaaaW.PrintMore
set_option linter.unusedVariables false
set_option linter.unusedSimpArgs false
/-! ### reading -/
def inoParse (l : List Int) : Ino := ⟨rd l 0, (num ((l.take 4).drop 2) : Int), (num ((l.take 8).drop 4) : Int), rd l 1 == 1, (num ((l.take 12).drop 8) : Int), (l.take 72).drop 12⟩
def decOf (l : List Int) (n : Int) : Ino × Int := if 0 ≤ n ∧ n ≤ 1048576 then (if l.length = 128 then (if l = List.replicate 128 0 then (Ino.zero, 0) else (if (encOf (inoParse l) n).2 = 0 ∧ (encOf (inoParse l) n).1 = l then (inoParse l, 0) else (Ino.zero, 13))) else (Ino.zero, 13)) else (Ino.zero, 1)
def inoTup (p : Ino × Int) : Int × Int × Int × Bool × Int × List Int × Int := (p.1.kind, p.1.links, p.1.size, p.1.inl, p.1.attrs, p.1.body, p.2)
theorem part_lt (l : List Int) (hl : X.u8all l = true) (hn : l.length = 128) (i j m : Nat) (hj : j ≤ 128) (hm : j - i = m) (h4 : m ≤ 4) : num ((l.take j).drop i) < 4294967296 ∧ ((l.take j).drop i).length = m := by
  have h := num_lt _ (X.u8all_drop (X.u8all_take hl j) i)
  have hlen : ((l.take j).drop i).length = m := by rw [List.length_drop, List.length_take, hn, Nat.min_eq_left hj, hm]
  rw [hlen] at h
  have : 256 ^ m ≤ 256 ^ 4 := Nat.pow_le_pow_right (by decide) h4
  exact ⟨by omega, hlen⟩
theorem rd_u8 {l : List Int} (hl : X.u8all l = true) (i : Nat) (hi : i < l.length) : 0 ≤ rd l (i : Int) ∧ rd l (i : Int) < 256 := by
  unfold rd
  rw [Int.toNat_natCast]
  exact X.u8all_at hl i hi
theorem parse_wf (l : List Int) (hl : X.u8all l = true) (hn : l.length = 128) : (inoParse l).Wf := by
  have h0 := rd_u8 hl 0 (by omega)
  have h1 := (part_lt l hl hn 2 4 2 (by decide) rfl (by decide)).1
  have h2 := (part_lt l hl hn 4 8 4 (by decide) rfl (by decide)).1
  have h3 := (part_lt l hl hn 8 12 4 (by decide) rfl (by decide)).1
  exact ⟨by show _ ≤ rd l 0 ∧ rd l 0 ≤ _; constructor <;> (have e : rd l 0 = rd l ((0 : Nat) : Int) := rfl; rw [e]; omega), by show _ ≤ (num _ : Int) ∧ (num _ : Int) ≤ _; omega, by show _ ≤ (num _ : Int) ∧ (num _ : Int) ≤ _; omega, by show _ ≤ (num _ : Int) ∧ (num _ : Int) ≤ _; omega,
    X.u8all_drop (X.u8all_take hl 72) 12, by show ((l.take 72).drop 12).length ≤ _; rw [List.length_drop, List.length_take]; omega⟩
theorem encOf_u8 (x : Ino) (hb : X.u8all x.body = true) (n : Int) : X.u8all (encOf x n).1 = true := by
  unfold encOf
  split
  · split
    · exact zeros_u8' 128
    · split
      · exact Ino.enc_u8 hb n
      · rfl
  · rfl
theorem number_part (l : List Int) (hl : X.u8all l = true) (hn : l.length = 128) (i j m : Nat) (hj : j ≤ 128) (hm : j - i = m) (h4 : m ≤ 4) (k : Nat) (hk : 8 < k) : inode_number.f k ((l.take j).drop i) = some (num ((l.take j).drop i) : Int) := by
  obtain ⟨h1, h2⟩ := part_lt l hl hn i j m hj hm h4
  unfold inode_number.f
  rw [number_f _ (X.u8all_drop (X.u8all_take hl j) i) k hk, Option.bind_some, if_pos (by omega)]
  show some (wrap64 _) = _
  rw [wrap64_id (by omega) (by omega)]
theorem decode_f (l : List Int) (hl : X.u8all l = true) (n : Int) (k : Nat) (hk : 8 < k) : inode_Decode.f k l n = some (inoTup (decOf l n)) := by
  unfold inode_Decode.f decOf
  rw [inode_between_int.val, Option.bind_some]
  by_cases hn : 0 ≤ n ∧ n ≤ 1048576
  · rw [if_pos (by simp; omega), if_pos hn]
    by_cases h128 : l.length = 128
    · rw [if_pos (by omega), if_pos h128, if_pos (by decide)]
      unfold bytes_Equal.f
      rw [Option.bind_some]
      by_cases hz : l = List.replicate 128 0
      · rw [if_pos (by rw [beq_iff_eq, str_inj hl (zeros_u8' 128)]; exact hz), if_pos hz]
        rfl
      · rw [if_neg (by rw [beq_iff_eq, str_inj hl (zeros_u8' 128)]; exact hz), if_neg hz]
        have h0 := rd_u8 hl 0 (by omega)
        have hw : wrap64 (rd l 0) = rd l 0 := wrap64_id (by have : rd l 0 = rd l ((0 : Nat) : Int) := rfl; omega) (by have : rd l 0 = rd l ((0 : Nat) : Int) := rfl; omega)
        have hclone : bytes_Clone.f ((l.take 72).drop 12) = some ((l.take 72).drop 12) := by
          unfold bytes_Clone.f
          rw [if_pos (by rw [List.length_drop, List.length_take]; omega)]
        rw [if_pos (by omega), if_pos (by omega), if_pos (by decide), if_pos (by omega), number_part l hl h128 2 4 2 (by decide) rfl (by decide) k hk, Option.bind_some, if_pos (by decide), if_pos (by omega), number_part l hl h128 4 8 4 (by decide) rfl (by decide) k hk, Option.bind_some,
          if_pos (by decide), if_pos (by omega), number_part l hl h128 8 12 4 (by decide) rfl (by decide) k hk, Option.bind_some, if_pos (by decide), if_pos (by omega), hclone, Option.bind_some, hw]
        have he := encode_f (inoParse l) (parse_wf l hl h128) n
        have he' : inode_Encode.f (rd l 0) (num ((l.take 4).drop 2) : Int) (num ((l.take 8).drop 4) : Int) (rd l 1 == 1) (num ((l.take 12).drop 8) : Int) ((l.take 72).drop 12) n = some (encOf (inoParse l) n) := he
        rw [he', Option.bind_some]
        have hu := encOf_u8 (inoParse l) (parse_wf l hl h128).body n
        by_cases h0 : (encOf (inoParse l) n).2 = 0
        · rw [if_pos h0, Option.bind_some]
          by_cases h1 : (encOf (inoParse l) n).1 = l
          · rw [if_pos (by rw [beq_iff_eq, str_inj hu hl]; exact h1), if_pos ⟨h0, h1⟩]
            rfl
          · rw [if_neg (by rw [beq_iff_eq, str_inj hu hl]; exact h1), if_neg (fun h => h1 h.2)]
            rfl
        · rw [if_neg h0, if_neg (fun h => h0 h.1)]
          rfl
    · rw [if_neg (by omega), if_neg h128]
      rfl
  · rw [if_neg (by simp; omega), if_neg hn]
    rfl
end Go.Proofs.Ytkpkmkgmpggjaaa.Pure
