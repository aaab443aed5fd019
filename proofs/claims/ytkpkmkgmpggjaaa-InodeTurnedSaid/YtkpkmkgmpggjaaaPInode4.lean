/- An inode's bytes with bits turned are not read. -/
import Derived.Test.YtkpkmkgmpggjaaaUx7
import Derived.Test.YtkpkmkgmpggjaaaPInode3
import Derived.Test.YtkpkmkgmpggjaaaPFlip
namespace Go.Proofs.Ytkpkmkgmpggjaaa.Pure
open Go Go.RowKit Go.Proofs.Ytkpkmkgmpggjaaa.U Go.Proofs.YtkpkmkgmpggjaaaW.PrintWords Go.Proofs.YtkpkmkgmpggjaaaW.PrintLast Go.Proofs.YtkpkmkgmpggjaaaW.PrintMore
set_option linter.unusedVariables false
set_option linter.unusedSimpArgs false
/-- With bits turned within 32 side by side they are not read, unless they are none at all. -/
theorem dec_turned (x : Ino) (h : x.ok = true) (hb : X.u8all x.body = true) (n : Int) (hn : 0 ≤ n ∧ n ≤ 1048576) (first burst : Nat) (hf : first ≤ 1024) (ht : X.flipped 1024 first burst 32 = true)
    (hz : X.flipTo 1024 first burst (x.enc n) 32 ≠ List.replicate 128 0) : decOf (X.flipTo 1024 first burst (x.enc n) 32) n = (Ino.zero, 13) := by
  have hl := Ino.enc_length (Ino.ok_len h) n
  obtain ⟨h1, h2, h3⟩ := X.flipTo_tells 1024 first burst (x.enc n) (by rw [hl]) (Ino.enc_u8 hb n) 32
  generalize X.flipTo 1024 first burst (x.enc n) 32 = l at *
  have h128 : l.length = 128 := by rw [h1, hl]
  unfold decOf
  rw [if_pos hn, if_pos h128, if_neg hz, if_neg]
  rintro ⟨h0, he⟩
  obtain ⟨ho, he2⟩ := parse_ok l h128 n hn h0
  rw [he2] at he
  have he3 : (inoParse l).enc n = l := he
  rw [← he3] at h3
  have hbp : X.u8all (inoParse l).body = true := X.u8all_drop (X.u8all_take h2 72) 12
  have e1 : ∀ y : Ino, y.enc n = y.hd ++ bytesN (X.crcMore (inoSeed n) y.hd) 4 ++ [] := fun y => (List.append_nil _).symm
  rw [e1, e1 x] at h3
  exact no_burst (inoSeed n) x.hd (inoParse l).hd [] (Ino.hd_u8 hb) (Ino.hd_u8 hbp) rfl (by rw [Ino.hd_length (Ino.ok_len ho), Ino.hd_length (Ino.ok_len h)]) _ first (X.flipW_lt _ _ _ 32) ((X.flipped_iff _ _ _ _).1 ht) (by rw [← e1, hl]; exact hf) h3
end Go.Proofs.Ytkpkmkgmpggjaaa.Pure
