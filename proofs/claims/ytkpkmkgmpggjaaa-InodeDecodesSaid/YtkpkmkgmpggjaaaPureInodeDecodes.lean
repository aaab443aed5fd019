/- InodeDecodes: an inode is read out of any bytes, or refused, as the document says, and what is read shares no memory with the bytes; no condition. -/
import Derived.Test.YtkpkmkgmpggjaaaUx18
import Derived.Test.YtkpkmkgmpggjaaaPInode3
import Derived.Test.YtkpkmkgmpggjaaaPInodeD
namespace Go.Proofs.Ytkpkmkgmpggjaaa.Pure
open Go Go.RowKit Go.Proofs.Ytkpkmkgmpggjaaa.U Go.Proofs.YtkpkmkgmpggjaaaW.PrintWords Go.Proofs.YtkpkmkgmpggjaaaW.PrintLast Go.Proofs.YtkpkmkgmpggjaaaW.PrintMore
set_option linter.unusedVariables false
set_option linter.unusedSimpArgs false
theorem decodes_l0 (y : Ino) (e : Int) : ∀ (d i k : Nat) (xs : List Int), xs.length ≤ 140737488351232 → i + d = xs.length → d < k →
    undercroftlaw09_InodeDecodes.l0 k xs e e (i : Int) y.kind y.links y.size y.inl y.attrs y.body y.kind y.links y.size y.inl y.attrs y.body = some true
  | 0, i, k, xs, hm, hi, hk => by
    obtain ⟨k, rfl⟩ : ∃ m, k = m + 1 := ⟨k - 1, by omega⟩
    unfold undercroftlaw09_InodeDecodes.l0
    rw [if_neg (by omega), if_pos rfl, same_refl, Option.bind_some]
  | d + 1, i, k, xs, hm, hi, hk => by
    obtain ⟨k, rfl⟩ : ∃ m, k = m + 1 := ⟨k - 1, by omega⟩
    have hw : wrap64 ((i : Int) + 1) = ((i + 1 : Nat) : Int) := by rw [wrap64_id (by omega) (by omega)]; omega
    unfold undercroftlaw09_InodeDecodes.l0
    rw [if_pos (by omega), if_pos (by omega), hw]
    exact decodes_l0 y e d (i + 1) k _ (by rw [List.length_set]; exact hm) (by rw [List.length_set]; omega) (by omega)
theorem InodeDecodes : undercroftlaw09_InodeDecodes.Pure := by
  intro l0 a1 hmax hsz hwf _
  have hu := X.u8all_wf hwf
  refine ⟨500 + l0.length, ?_⟩
  unfold undercroftlaw09_InodeDecodes.f
  rw [alive_true _ (by omega), Option.bind_some, if_pos rfl, Option.bind_some, if_pos (by simp; omega), Option.bind_some, List.nil_append, decode_f l0 hu a1 _ (by omega), Option.bind_some, refDecode_f l0 hu a1 _ (by omega), Option.bind_some]
  exact decodes_l0 (decOf l0 a1).1 (decOf l0 a1).2 l0.length 0 _ l0 (by omega) (by omega) (by omega)
end Go.Proofs.Ytkpkmkgmpggjaaa.Pure
