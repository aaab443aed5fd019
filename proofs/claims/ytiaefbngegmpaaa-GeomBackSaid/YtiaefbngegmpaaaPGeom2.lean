/- What reading a superblock comes to. -/
import Derived.Test.YtiaefbngegmpaaaUx14
import Derived.Test.YtiaefbngegmpaaaUx15
import Derived.Test.YtiaefbngegmpaaaUx16
import Derived.Test.YtiaefbngegmpaaaPGeom
namespace Go.Proofs.Ytiaefbngegmpaaa.Pure
open Go Go.RowKit Go.Proofs.Ytiaefbngegmpaaa.U Go.Proofs.YtiaefbngegmpaaaW.PrintWords Go.Proofs.YtiaefbngegmpaaaW.PrintLast Go.Proofs.YtiaefbngegmpaaaW.PrintMore
/-- The number of blocks that some bytes tell. -/
def told (l : List Int) : Int := (num ((l.take 12).drop 8) : Int)
def decodeOf (l : List Int) : Int × Int × Int × Int × Int × Int × Int × Int × Int :=
  if l.length = 256 ∧ Good (told l) ∧ l = sb (told l) then (told l, told l / 4, 1, 2, 3, lgOf (told l), llOf (told l), dtOf (told l), 0) else (0, 0, 0, 0, 0, 0, 0, 0, 13)
theorem told_range (l : List Int) (hl : X.u8all l = true) (hn : l.length = 256) : 0 ≤ told l ∧ told l < 4294967296 := by
  have h := num_lt _ (X.u8all_drop (X.u8all_take hl 12) 8)
  rw [List.length_drop, List.length_take, hn] at h
  unfold told
  exact ⟨Int.natCast_nonneg _, by have : 256 ^ (min 12 256 - 8) = 4294967296 := rfl; omega⟩
theorem decode_f (l : List Int) (hl : X.u8all l = true) (k : Nat) (hk : 8 < k) : geom_Decode.f k l = some (decodeOf l) := by
  unfold geom_Decode.f decodeOf
  by_cases hn : l.length = 256
  · have hr := told_range l hl hn
    have hlen : ((l.take 12).drop 8).length = 4 := by rw [List.length_drop, List.length_take, hn]; rfl
    rw [if_pos (by omega), if_pos (by decide), if_pos (by omega), number_f _ (X.u8all_drop (X.u8all_take hl 12) 8) k hk, Option.bind_some, hlen, if_pos (by decide)]
    show (geom_Layout.f (wrap64 (told l))).bind _ = _
    rw [wrap64_id (by omega) (by omega)]
    by_cases hg : Good (told l)
    · rw [layout_good hg, Option.bind_some, if_pos rfl]
      dsimp only
      rw [encode_good hg, Option.bind_some]
      unfold bytes_Equal.f
      rw [Option.bind_some]
      by_cases he : l = sb (told l)
      · have hs : ((strOfNums l).toList == (strOfNums (sb (told l))).toList) = true := by rw [beq_iff_eq, str_inj hl (sb_u8 _)]; exact he
        rw [if_pos hs, if_pos ⟨hn, hg, he⟩]
      · have hs : ¬ ((strOfNums l).toList == (strOfNums (sb (told l))).toList) = true := by rw [beq_iff_eq, str_inj hl (sb_u8 _)]; exact he
        rw [if_neg hs, if_neg (fun h => he h.2.2)]
    · rw [layout_bad hg, Option.bind_some, if_neg (by decide), if_neg (fun h => hg h.2.1)]
  · rw [if_neg (by omega), if_neg (fun h => hn h.1)]
theorem refDecode_f (l : List Int) (hl : X.u8all l = true) (k : Nat) (hk : 400 ≤ k) : undercroftref06_Decode.f k l = some (decodeOf l) := by
  unfold undercroftref06_Decode.f decodeOf
  by_cases hn : l.length = 256
  · have hr := told_range l hl hn
    have hlen : ((l.take 12).drop 8).length = 4 := by rw [List.length_drop, List.length_take, hn]; rfl
    have hat : undercroftref01_At.f k l 8 4 = some (told l) := by
      unfold undercroftref01_At.f
      have hw : wrap64 (8 + 4) = 12 := by unfold wrap64; omega
      rw [hw, if_pos (by decide), if_pos (by decide), if_pos (by omega)]
      show (undercroftref01_Number.f k ((l.take 12).drop 8)).bind _ = _
      rw [refNumber_f _ (X.u8all_drop (X.u8all_take hl 12) 8) k (by omega), Option.bind_some, hlen, if_pos (by decide)]
      show some (wrap64 (told l)) = _
      rw [wrap64_id (by omega) (by omega)]
    rw [if_pos (by omega), hat, Option.bind_some, refLayout_eq]
    by_cases hg : Good (told l)
    · rw [layout_good hg, Option.bind_some, if_pos rfl]
      dsimp only
      rw [refEncode_good hg k hk, Option.bind_some]
      by_cases he : l = sb (told l)
      · rw [if_pos ((str_inj hl (sb_u8 _)).2 he), if_pos ⟨hn, hg, he⟩]
      · rw [if_neg (fun h => he ((str_inj hl (sb_u8 _)).1 h)), if_neg (fun h => he h.2.2)]
    · rw [layout_bad hg, Option.bind_some, if_neg (by decide), if_neg (fun h => hg h.2.1)]
  · rw [if_neg (by omega), if_neg (fun h => hn h.1)]
theorem told_sb {B : Int} (h : Good B) : told (sb B) = B := by
  unfold told
  rw [sb_blocks]
  obtain ⟨b, rfl⟩ := Int.eq_ofNat_of_zero_le (show 0 ≤ B by have := h.1; omega)
  have hb := h.2
  have e1 : IntKind.u64.wrap ((b : Nat) : Int) = (b : Int) := by rw [u64_wrap]; omega
  rw [e1, num_bytesN, Nat.mod_eq_of_lt (show b < 256 ^ 4 by omega)]
theorem decode_sb {B : Int} (h : Good B) : decodeOf (sb B) = (B, B / 4, 1, 2, 3, lgOf B, llOf B, dtOf B, 0) := by
  unfold decodeOf
  rw [told_sb h, if_pos ⟨sb_length B, h, rfl⟩]
/-- A superblock with bits turned within 32 side by side is none. -/
theorem decode_turned {B : Int} (first burst : Nat) (hf : first ≤ 2048) (ht : X.flipped 2048 first burst 32 = true) : decodeOf (X.flipTo 2048 first burst (sb B) 32) = (0, 0, 0, 0, 0, 0, 0, 0, 13) := by
  obtain ⟨h1, h2, h3⟩ := X.flipTo_tells 2048 first burst (sb B) (by rw [sb_length]) (sb_u8 B) 32
  unfold decodeOf
  rw [if_neg]
  rintro ⟨_, hg, he⟩
  generalize told (X.flipTo 2048 first burst (sb B) 32) = C at *
  rw [he, sb_form B, sb_form C] at h3
  exact no_burst 0 (superHead (geo B) 8) (superHead (geo C) 8) (List.replicate 212 0) (superHead_u8 _ _) (superHead_u8 _ _) (zeros_u8 _) (by rw [superHead_length, superHead_length]) _ first (X.flipW_lt _ _ _ 32) ((X.flipped_iff _ _ _ _).1 ht) (by rw [← sb_form, sb_length]; exact hf) h3
end Go.Proofs.Ytiaefbngegmpaaa.Pure
