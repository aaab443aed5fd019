/- What the printed functions of layer 6 come to, in closed form. -/
import Derived.Test.YtiaefbngegmpaaaUx2
import Derived.Test.YtiaefbngegmpaaaUx5
import Derived.Test.YtiaefbngegmpaaaUx6
import Derived.Test.YtiaefbngegmpaaaUx7
import Derived.Test.YtiaefbngegmpaaaUx9
import Derived.Test.YtiaefbngegmpaaaUx11
import Derived.Test.YtiaefbngegmpaaaPCrc2
namespace Go.Proofs.Ytiaefbngegmpaaa.Pure
open Go Go.RowKit Go.Proofs.Ytiaefbngegmpaaa.U Go.Proofs.YtiaefbngegmpaaaW.PrintWords Go.Proofs.YtiaefbngegmpaaaW.PrintLast Go.Proofs.YtiaefbngegmpaaaW.PrintMore
set_option linter.unusedVariables false
set_option linter.unusedSimpArgs false
theorem alive_true : undercroftlaw06_alive.f = some true := by decide +kernel
def Good (B : Int) : Prop := 128 ≤ B ∧ B ≤ 1024
instance (B : Int) : Decidable (Good B) := inferInstanceAs (Decidable (128 ≤ B ∧ B ≤ 1024))
def lgOf (B : Int) : Int := 3 + (B / 4 + 2 - 1) / 2
def llOf (B : Int) : Int := 32 + B / 32
def dtOf (B : Int) : Int := lgOf B + llOf B
def geo (B : Int) : List Int := [B, B / 4, 1, 2, 3, lgOf B, llOf B, dtOf B]
/-- The superblock of so many blocks. -/
def sb (B : Int) : List Int := superOf (geo B)
theorem layout_good {B : Int} (h : Good B) : geom_Layout.f B = some (B, B / 4, 1, 2, 3, lgOf B, llOf B, dtOf B, 0) := by unfold geom_Layout.f; rw [if_pos (show 128 ≤ B ∧ B ≤ 1024 from h)]; rfl
theorem layout_bad {B : Int} (h : ¬ Good B) : geom_Layout.f B = some (0, 0, 0, 0, 0, 0, 0, 0, 1) := by unfold geom_Layout.f; rw [if_neg (show ¬ (128 ≤ B ∧ B ≤ 1024) from h)]
theorem refLayout_eq (B : Int) : undercroftref06_Layout.f B = geom_Layout.f B := by
  unfold undercroftref06_Layout.f geom_Layout.f
  rw [show B / 4 + 2 - 1 = B / 4 + 1 from by omega]
theorem is_good {B : Int} (h : Good B) : geom_is.f B (B / 4) 1 2 3 (lgOf B) (llOf B) (dtOf B) = some true := by
  unfold geom_is.f
  rw [layout_good h, Option.bind_some, if_pos rfl]
  simp
theorem is_zero : geom_is.f 0 0 0 0 0 0 0 0 = some false := by
  unfold geom_is.f
  rw [layout_bad (by unfold Good; omega), Option.bind_some, if_neg (by decide)]
theorem refIs_eq (a b c d e f g h : Int) : undercroftref06_Is.f a b c d e f g h = geom_is.f a b c d e f g h := by
  unfold undercroftref06_Is.f geom_is.f
  rw [refLayout_eq]
theorem encode_good {B : Int} (h : Good B) : geom_Encode.f B (B / 4) 1 2 3 (lgOf B) (llOf B) (dtOf B) = some (sb B, 0) := by
  unfold geom_Encode.f
  rw [is_good h, Option.bind_some, if_pos rfl]
  rfl
theorem encode_zero : geom_Encode.f 0 0 0 0 0 0 0 0 = some ([], 1) := by
  unfold geom_Encode.f
  rw [is_zero, Option.bind_some, if_neg (by decide)]
theorem word4_N (v : Int) : word4 v = bytesN (IntKind.u64.wrap v) 4 := rfl
theorem sb_length (B : Int) : (sb B).length = 256 := by
  unfold sb superOf
  rw [List.length_append, List.length_append, superHead_length, word4_length, List.length_replicate]
theorem zeros_u8 (n : Nat) : X.u8all (List.replicate n 0) = true := X.u8all_iff.2 (fun c hc => by rw [(List.mem_replicate.1 hc).2]; decide)
theorem sb_u8 (B : Int) : X.u8all (sb B) = true := X.u8all_append.2 ⟨X.u8all_append.2 ⟨superHead_u8 _ _, word4_u8 _⟩, zeros_u8 _⟩
theorem wrap_sum (a : Int) (l : List Int) : IntKind.u64.wrap (X.crcMore a l) = X.crcMore a l := by
  have := X.crcMore_range a l
  rw [u64_wrap]
  omega
theorem sb_form (B : Int) : sb B = superHead (geo B) 8 ++ bytesN (X.crcMore 0 (superHead (geo B) 8)) 4 ++ List.replicate 212 0 := by
  unfold sb superOf
  rw [word4_N, wrap_sum]
/-- The number of blocks is read out of the superblock. -/
theorem sb_blocks (B : Int) : ((sb B).take 12).drop 8 = bytesN (IntKind.u64.wrap B) 4 := by
  have h : superHead (geo B) 8 = superHead (geo B) 1 ++ (word4 ((geo B).getD 1 0) ++ word4 ((geo B).getD 2 0) ++ word4 ((geo B).getD 3 0) ++ word4 ((geo B).getD 4 0) ++ word4 ((geo B).getD 5 0) ++ word4 ((geo B).getD 6 0) ++ word4 ((geo B).getD 7 0)) := by
    simp only [superHead, List.append_assoc]
  unfold sb superOf
  rw [h, List.append_assoc, List.append_assoc, List.take_append_of_le_length (by rw [superHead_length]; omega), List.take_of_length_le (by rw [superHead_length]; omega)]
  rfl
theorem sb_inj {B C : Int} (hB : Good B) (hC : Good C) (h : sb B = sb C) : B = C := by
  have e : bytesN (IntKind.u64.wrap B) 4 = bytesN (IntKind.u64.wrap C) 4 := by rw [← sb_blocks, ← sb_blocks, h]
  obtain ⟨b, rfl⟩ := Int.eq_ofNat_of_zero_le (show 0 ≤ B by have := hB.1; omega)
  obtain ⟨c, rfl⟩ := Int.eq_ofNat_of_zero_le (show 0 ≤ C by have := hC.1; omega)
  have hb := hB.2
  have hc := hC.2
  have e1 : IntKind.u64.wrap ((b : Nat) : Int) = (b : Int) := by rw [u64_wrap]; omega
  have e2 : IntKind.u64.wrap ((c : Nat) : Int) = (c : Int) := by rw [u64_wrap]; omega
  rw [e1, e2] at e
  have e3 := congrArg num e
  rw [num_bytesN, num_bytesN, Nat.mod_eq_of_lt (show b < 256 ^ 4 by omega), Nat.mod_eq_of_lt (show c < 256 ^ 4 by omega)] at e3
  rw [e3]
/-! ### the document's superblock -/
theorem refEncode_l1 : ∀ (d k : Nat) (l : List Int), l.length + d = 256 → d < k → undercroftref06_Encode.l1 k l = some (l ++ List.replicate d 0, 0)
  | 0, k, l, hl, hk => by
    obtain ⟨k, rfl⟩ : ∃ m, k = m + 1 := ⟨k - 1, by omega⟩
    rw [undercroftref06_Encode.l1_q1, if_neg (by omega)]
    simp
  | d + 1, k, l, hl, hk => by
    obtain ⟨k, rfl⟩ : ∃ m, k = m + 1 := ⟨k - 1, by omega⟩
    rw [undercroftref06_Encode.l1_q1, if_pos (by omega), if_pos (by omega), refEncode_l1 d k (l ++ [0]) (by rw [List.length_append]; simp; omega) (by omega), List.append_assoc]
    rfl
theorem refEncode_l0 (L : List Int) (hL : L.length = 8) : ∀ (d i k : Nat), i + d = 8 → d + 300 < k → undercroftref06_Encode.l0 k (superHead L i) L (i : Int) = some (superOf L, 0)
  | 0, i, k, hi, hk => by
    obtain ⟨k, rfl⟩ : ∃ m, k = m + 1 := ⟨k - 1, by omega⟩
    obtain rfl : i = 8 := by omega
    have hlen := superHead_length L 8
    rw [undercroftref06_Encode.l0, if_neg (by omega), refSum_f _ k (by omega) (by omega), Option.bind_some, refBytes_f _ _ k (by omega), Option.bind_some, if_pos (by rw [bytesN_length]; have := clamp8_le 4; omega)]
    rw [refEncode_l1 212 k _ (by rw [List.length_append, bytesN_length, hlen]; rfl) (by omega)]
    rfl
  | d + 1, i, k, hi, hk => by
    obtain ⟨k, rfl⟩ : ∃ m, k = m + 1 := ⟨k - 1, by omega⟩
    have ih := refEncode_l0 L hL d (i + 1) k (by omega) (by omega)
    have hlen := superHead_length L i
    have hw : wrap64 ((i : Int) + 1) = ((i + 1 : Nat) : Int) := by rw [wrap64_id (by omega) (by omega)]; omega
    have hrd : rd L (i : Int) = L.getD i 0 := by unfold rd; rw [Int.toNat_natCast]
    rw [undercroftref06_Encode.l0, if_pos (by omega), if_pos (by omega), refBytes_f _ _ k (by omega), Option.bind_some, if_pos (by rw [bytesN_length]; have := clamp8_le 4; omega), hw, hrd]
    exact ih
theorem refEncode_good {B : Int} (h : Good B) (k : Nat) (hk : 400 ≤ k) : undercroftref06_Encode.f k B (B / 4) 1 2 3 (lgOf B) (llOf B) (dtOf B) = some (sb B, 0) := by
  unfold undercroftref06_Encode.f
  rw [refIs_eq, is_good h, Option.bind_some, if_pos rfl]
  exact refEncode_l0 (geo B) rfl 8 0 k (by omega) (by omega)
theorem refEncode_zero (k : Nat) : undercroftref06_Encode.f k 0 0 0 0 0 0 0 0 = some ([], 1) := by
  unfold undercroftref06_Encode.f
  rw [refIs_eq, is_zero, Option.bind_some, if_neg (by decide)]
end Go.Proofs.Ytiaefbngegmpaaa.Pure
