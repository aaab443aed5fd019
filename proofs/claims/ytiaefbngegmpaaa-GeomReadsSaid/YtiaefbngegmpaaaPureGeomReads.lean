/- GeomReads: any bytes are read as a superblock, or refused, as the document says; no condition. -/
import Derived.Test.YtiaefbngegmpaaaUx16
import Derived.Test.YtiaefbngegmpaaaPGeom2
namespace Go.Proofs.Ytiaefbngegmpaaa.Pure
open Go Go.RowKit Go.Proofs.Ytiaefbngegmpaaa.U Go.Proofs.YtiaefbngegmpaaaW.PrintWords Go.Proofs.YtiaefbngegmpaaaW.PrintLast Go.Proofs.YtiaefbngegmpaaaW.PrintMore
theorem GeomReads : undercroftlaw06_GeomReads.Pure := by
  intro l0 hmax hsz hwf
  have hu := X.u8all_wf hwf
  refine ⟨400, ?_⟩
  unfold undercroftlaw06_GeomReads.f
  rw [alive_true, Option.bind_some, if_pos rfl, Option.bind_some, if_pos (by simp; omega), List.nil_append, decode_f l0 hu 400 (by omega), Option.bind_some, refDecode_f l0 hu 400 (by omega), Option.bind_some]
  simp
end Go.Proofs.Ytiaefbngegmpaaa.Pure
