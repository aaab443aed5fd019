/- BitsTells: bits, counts, first ones and longest runs are told as the document says, at any map and any places; no condition. -/
import Derived.Test.YtlieacllpifhkaaUx9
import Derived.Test.YtlieacllpifhkaaPBits3
namespace Go.Proofs.Ytlieacllpifhkaa.Pure
open Go Go.RowKit Go.Proofs.Ytlieacllpifhkaa.U Go.Proofs.YtlieacllpifhkaaW.PrintWords Go.Proofs.YtlieacllpifhkaaW.PrintLast Go.Proofs.YtlieacllpifhkaaW.PrintMore
set_option linter.unusedVariables false
set_option linter.unusedSimpArgs false
theorem BitsTells : undercroftlaw07_BitsTells.Pure := by
  intro l a1 a2 hmax hsz hwf h1 h2
  have hl := X.u8all_wf hwf
  have hm : l.length ≤ 140737488355328 := by omega
  have hb : a1 ≤ 9223372036854775807 := by
    simp [Lit.wf, IntKind.max, IntKind.min, IntKind.bits, IntKind.signed] at h1
    omega
  refine ⟨16 * l.length + 30, ?_⟩
  obtain ⟨p, q, hL, hB⟩ := longest_f l hl hm a1 a2 (16 * l.length + 30) (by omega)
  obtain ⟨p', q', hL', hB'⟩ := refLongest_f l hl hm a1 a2 (16 * l.length + 30) (by omega)
  obtain ⟨rfl, rfl⟩ := hB.uniq hB'
  unfold undercroftlaw07_BitsTells.f
  rw [alive_true _ (by omega), Option.bind_some, if_pos rfl, Option.bind_some, if_pos (by simp; omega), Option.bind_some, List.nil_append, hL, Option.bind_some, hL', Option.bind_some, get_f l hl hm a1 hb, Option.bind_some, refGet_f l hl hm a1 hb, Option.bind_some, if_pos (by simp),
    count_f l hl hm a1 a2 _ (by omega), Option.bind_some, refCount_f l hl hm a1 a2 _ (by omega), Option.bind_some, if_pos rfl, first_f l hl hm a1 a2 true _ (by omega), Option.bind_some, refFirst_f l hl hm a1 a2 true _ (by omega), Option.bind_some, if_pos rfl,
    first_f l hl hm a1 a2 false _ (by omega), Option.bind_some, refFirst_f l hl hm a1 a2 false _ (by omega), Option.bind_some, if_pos rfl, if_pos rfl, if_pos rfl]
  simp
end Go.Proofs.Ytlieacllpifhkaa.Pure
