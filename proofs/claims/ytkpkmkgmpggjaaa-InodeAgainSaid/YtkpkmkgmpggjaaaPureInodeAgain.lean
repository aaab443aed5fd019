/- InodeAgain: an inode that is read makes the bytes that it was read from, and may be; no condition. -/
import Derived.Test.YtkpkmkgmpggjaaaUx20
import Derived.Test.YtkpkmkgmpggjaaaPInode3
namespace Go.Proofs.Ytkpkmkgmpggjaaa.Pure
open Go Go.RowKit Go.Proofs.Ytkpkmkgmpggjaaa.U Go.Proofs.YtkpkmkgmpggjaaaW.PrintWords Go.Proofs.YtkpkmkgmpggjaaaW.PrintLast Go.Proofs.YtkpkmkgmpggjaaaW.PrintMore
set_option linter.unusedVariables false
set_option linter.unusedSimpArgs false
theorem InodeAgain : undercroftlaw09_InodeAgain.Pure := by
  intro l0 a1 hmax hsz hwf _
  have hu := X.u8all_wf hwf
  refine ⟨500, ?_⟩
  unfold undercroftlaw09_InodeAgain.f
  rw [alive_true _ (by omega), Option.bind_some, if_pos rfl, decode_f l0 hu a1 _ (by omega), Option.bind_some]
  unfold decOf inoTup
  by_cases hn : 0 ≤ a1 ∧ a1 ≤ 1048576
  · rw [if_pos hn]
    by_cases h128 : l0.length = 128
    · rw [if_pos h128]
      by_cases hz : l0 = List.replicate 128 0
      · rw [if_pos hz, if_pos rfl]
        have he : inode_Encode.f 0 0 0 false 0 [] a1 = some (List.replicate 128 0, 0) := by
          have := encode_f Ino.zero ⟨by decide, by decide, by decide, by decide, rfl, by decide⟩ a1
          unfold encOf at this
          rw [if_pos hn, if_pos zero_none] at this
          exact this
        show (inode_Encode.f 0 0 0 false 0 [] a1).bind _ = _
        rw [he, Option.bind_some, if_pos rfl, if_pos (by rw [hz])]
        refine if_pos ?_
        rfl
      · rw [if_neg hz]
        by_cases h : (encOf (inoParse l0) a1).2 = 0 ∧ (encOf (inoParse l0) a1).1 = l0
        · rw [if_pos h, if_pos rfl]
          obtain ⟨ho, he⟩ := parse_ok l0 h128 a1 hn h.1
          have he2 := encode_f (inoParse l0) (parse_wf l0 hu h128) a1
          dsimp only
          rw [he2, Option.bind_some, if_pos h.1, if_pos (by rw [h.2])]
          have hk := (Ino.ok_tells ho).1
          rw [if_neg (by omega), check_f, Option.bind_some, if_pos ho]
          rfl
        · rw [if_neg h, if_neg (by decide)]
          rfl
    · rw [if_neg h128, if_neg (by decide)]
      rfl
  · rw [if_neg hn, if_neg (by decide)]
    rfl
end Go.Proofs.Ytkpkmkgmpggjaaa.Pure
