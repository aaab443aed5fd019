/- InodeEncodes: the bytes of an inode are what the document says, or it is refused; what is allowed likewise, and the inode that was handed over is left as it was; no condition. -/
import Derived.Test.YtkpkmkgmpggjaaaUx8
import Derived.Test.YtkpkmkgmpggjaaaUx14
import Derived.Test.YtkpkmkgmpggjaaaPInode3
import Derived.Test.YtkpkmkgmpggjaaaPInodeR
namespace Go.Proofs.Ytkpkmkgmpggjaaa.Pure
open Go Go.RowKit Go.Proofs.Ytkpkmkgmpggjaaa.U Go.Proofs.YtkpkmkgmpggjaaaW.PrintWords Go.Proofs.YtkpkmkgmpggjaaaW.PrintLast Go.Proofs.YtkpkmkgmpggjaaaW.PrintMore
set_option linter.unusedVariables false
set_option linter.unusedSimpArgs false
theorem copy_f (x : Ino) (h : x.body.length ≤ 140737488351232) : undercroftref09_Copy.f x.kind x.links x.size x.inl x.attrs x.body = some (x.kind, x.links, x.size, x.inl, x.attrs, x.body) := by
  unfold undercroftref09_Copy.f
  rw [Option.bind_some, if_pos (by simp; omega), List.nil_append]
theorem encodes_ino (x : Ino) (hx : x.Wf) (n : Int) : undercroftlaw09_InodeEncodes.f 500 x.kind x.links x.size x.inl x.attrs x.body n = some true := by
  unfold undercroftlaw09_InodeEncodes.f
  rw [alive_true _ (by omega), Option.bind_some, if_pos rfl, copy_f x hx.len, Option.bind_some]
  dsimp only
  rw [encode_f x hx, Option.bind_some, refEncode_f x n _ (by omega), Option.bind_some, if_pos rfl, if_pos rfl, check_f, Option.bind_some, refCheck_f x _ (by omega), Option.bind_some, if_pos rfl, same_refl, Option.bind_some]
theorem InodeEncodes (a0_0 a0_1 a0_2 : Int) (a0_3 : Bool) (a0_4 : Int) (l0_5 : List Int) (a1 : Int) (w0 : (Lit.int .i64 a0_0).wf = true) (w1 : (Lit.int .i64 a0_1).wf = true) (w2 : (Lit.int .i64 a0_2).wf = true) (w4 : (Lit.int .i64 a0_4).wf = true)
    (hw : ∀ c ∈ l0_5, (Lit.int .u8 c).wf = true) (y : l0_5.length * 1 ≤ 140737488351232) (_w : (Lit.int .i64 a1).wf = true) : ∃ k, undercroftlaw09_InodeEncodes.f k a0_0 a0_1 a0_2 a0_3 a0_4 l0_5 a1 = some true :=
  ⟨500, encodes_ino ⟨a0_0, a0_1, a0_2, a0_3, a0_4, l0_5⟩ (ino_wf w0 w1 w2 w4 hw y) a1⟩
end Go.Proofs.Ytkpkmkgmpggjaaa.Pure
