/- PCrc2: what this claim uses. Laid by slim.py (ours). -/
import Derived.Test.YtpihpabofgmahaaKUx5
import Derived.Test.YtpihpabofgmahaaKPCrc
import Derived.Test.YtpihpabofgmahaaKXCrc3
namespace Go.Proofs.Ytpihpabofgmahaa.Pure
open Go Go.RowKit Go.Proofs.Ytpihpabofgmahaa.U Go.Proofs.YtpihpabofgmahaaW.PrintWords Go.Proofs.YtpihpabofgmahaaW.PrintLast Go.Proofs.YtpihpabofgmahaaW.PrintMore
set_option linter.unusedVariables false
set_option linter.unusedSimpArgs false
theorem str_map (l : List Int) : (strOfNums l).toList = l.map (fun c => UInt8.ofNat c.toNat) := by
  simp [strOfNums, ByteArray.toList_eq]
theorem str_inj {l m : List Int} (hl : X.u8all l = true) (hm : X.u8all m = true) : (strOfNums l).toList = (strOfNums m).toList ↔ l = m := by
  constructor
  · intro h
    rw [str_map, str_map] at h
    have hlen : l.length = m.length := by simpa using congrArg List.length h
    apply List.ext_getElem hlen
    intro i h1 h2
    have hi := congrArg (fun z => z[i]?) h
    simp only [List.getElem?_map, List.getElem?_eq_getElem h1, List.getElem?_eq_getElem h2, Option.map_some, Option.some.injEq] at hi
    have a1 := X.u8all_iff.1 hl _ (List.getElem_mem h1)
    have a2 := X.u8all_iff.1 hm _ (List.getElem_mem h2)
    have hv := congrArg UInt8.toNat hi
    simp only [UInt8.toNat_ofNat'] at hv
    omega
  · intro h; rw [h]
end Go.Proofs.Ytpihpabofgmahaa.Pure
