/- BuddyTakes: the blocks that are given out are the ones the document says, at any map and any wish; no condition. -/
import Derived.Test.YtlhpejdbmbpmhaaUx14
import Derived.Test.YtlhpejdbmbpmhaaPBuddy4
namespace Go.Proofs.Ytlhpejdbmbpmhaa.Pure
open Go Go.RowKit Go.Proofs.Ytlhpejdbmbpmhaa.U Go.Proofs.YtlhpejdbmbpmhaaW.PrintWords Go.Proofs.YtlhpejdbmbpmhaaW.PrintLast Go.Proofs.YtlhpejdbmbpmhaaW.PrintMore
set_option linter.unusedVariables false
set_option linter.unusedSimpArgs false
theorem BuddyTakes (l : List Int) (a b c : Int) (hwf : ∀ x ∈ l, (Lit.int .u8 x).wf = true) (hsz : l.length * 1 ≤ 140737488351232) (h1 : (Lit.int .i64 a).wf = true) (h2 : (Lit.int .i64 b).wf = true) (h3 : (Lit.int .i64 c).wf = true) : ∃ k, undercroftlaw08_BuddyTakes.f k l a b c = some true := by
  have hl := X.u8all_wf hwf
  have hm : l.length ≤ 140737488351232 := by omega
  obtain ⟨res, h4, h5, _⟩ := take_both l hl hm a b c (16 * l.length + 300) (by omega)
  refine ⟨16 * l.length + 300, ?_⟩
  unfold undercroftlaw08_BuddyTakes.f
  rw [alive_true _ (by omega), Option.bind_some, if_pos rfl, Option.bind_some, if_pos (by rw [List.length_nil]; omega), Option.bind_some, List.nil_append, h4, Option.bind_some, h5, Option.bind_some, if_pos rfl, if_pos (by simp), if_pos rfl]
  simp
end Go.Proofs.Ytlhpejdbmbpmhaa.Pure
