/-
  No cell of these rows narrows 'for every input' (looked for: loops, veiled, ifaces, maps, wideKeys, modest, calm, conditions, laid).
  DERIVED. THE GIVEN ROWS OF THIS SEAT. 8 by the template 'for every input the law returns true; each argument reads behind the call as it read before'; 0 by the template 'total and deterministic' (their statements: YtpihpabofgmahaaTotals.lean).
  GIVEN WITH THE SEED: the statements are not yours to turn. If you find one false, say at which input.
  Laid BY PROGRAM, IN A SANDBOX (cutbox-rows.mjs): the forced cells as the released guide's own fill.sh prints them over the translation 9edc0e2428cf9e62… (all of the seat's roots in one cut). By AI agents, Wed Nov 11 2026. No macro, syntax, notation, axiom, sorry.
-/
import Derived.Test.YtpihpabofgmahaaChecked
import GoSem.Claim
import GoSem.ClaimJoined
import GoSem.ClaimMapViews
import Derived.JoinedTies
import Derived.KernelRfl
namespace Go.Proofs.Ytpihpabofgmahaa
/- THE CELL 'sum', in the pinned program and in every row, IS THE sha256 OF THE DUMP (.gsa) THAT YtpihpabofgmahaaProg.lean LOADS. Nothing in Lean hashes anything: it is a label: what it is worth is what the hold of that sum in a sandbox is worth. -/
noncomputable def Try.pinned : Pinned := { name := "ytpihpabofgmahaa", sum := "9edc0e2428cf9e621d7dfc08cf446e88a6e0e635a3177770601a32e671bb13e4", checked := Try.checked }
namespace Rows
def none {H : Type} : Left H := { results := [], args := [] }

/-- 'undercroftlaw03.RecordEncodes': WHATEVER THE INPUT: true; the input reads as it did. -/
def recordEncodesSpec : ChangeSpec := { name := "recordEncodes", fn := fun _ => fun
  | [d] => { results := [.lit (.bool true)], args := [d] }
  | _ => none }
def recordEncodesRow : OpenClaim := { program := "ytpihpabofgmahaa", sum := "9edc0e2428cf9e621d7dfc08cf446e88a6e0e635a3177770601a32e671bb13e4", func := "undercroft/undercroftlaw03.RecordEncodes", spec := "recordEncodes", apart := false }
def RecordEncodesSaid : Prop := recordEncodesRow.holds Try.pinned (OpenSpec.ofChange recordEncodesSpec)

/-- ITS FALSE NEIGHBOUR: 'it returns false'. Refute it at one input. -/
def recordEncodesWrong : ChangeSpec := { name := "recordEncodes", fn := fun _ => fun
  | [d] => { results := [.lit (.bool false)], args := [d] }
  | _ => none }
def RecordEncodesWrongFalsely : Prop := recordEncodesRow.holds Try.pinned (OpenSpec.ofChange recordEncodesWrong)

/-- 'undercroftlaw03.RecordDecodes': WHATEVER THE INPUT: true; the input reads as it did. -/
def recordDecodesSpec : ChangeSpec := { name := "recordDecodes", fn := fun _ => fun
  | [d1, d2] => { results := [.lit (.bool true)], args := [d1, d2] }
  | _ => none }
def recordDecodesRow : OpenClaim := { program := "ytpihpabofgmahaa", sum := "9edc0e2428cf9e621d7dfc08cf446e88a6e0e635a3177770601a32e671bb13e4", func := "undercroft/undercroftlaw03.RecordDecodes", spec := "recordDecodes", apart := false }
def RecordDecodesSaid : Prop := recordDecodesRow.holds Try.pinned (OpenSpec.ofChange recordDecodesSpec)

/-- ITS FALSE NEIGHBOUR: 'it returns false'. Refute it at one input. -/
def recordDecodesWrong : ChangeSpec := { name := "recordDecodes", fn := fun _ => fun
  | [d1, d2] => { results := [.lit (.bool false)], args := [d1, d2] }
  | _ => none }
def RecordDecodesWrongFalsely : Prop := recordDecodesRow.holds Try.pinned (OpenSpec.ofChange recordDecodesWrong)

/-- 'undercroftlaw03.RecordBack': WHATEVER THE INPUT: true; the input reads as it did. -/
def recordBackSpec : ChangeSpec := { name := "recordBack", fn := fun _ => fun
  | [d1, d2] => { results := [.lit (.bool true)], args := [d1, d2] }
  | _ => none }
def recordBackRow : OpenClaim := { program := "ytpihpabofgmahaa", sum := "9edc0e2428cf9e621d7dfc08cf446e88a6e0e635a3177770601a32e671bb13e4", func := "undercroft/undercroftlaw03.RecordBack", spec := "recordBack", apart := false }
def RecordBackSaid : Prop := recordBackRow.holds Try.pinned (OpenSpec.ofChange recordBackSpec)

/-- ITS FALSE NEIGHBOUR: 'it returns false'. Refute it at one input. -/
def recordBackWrong : ChangeSpec := { name := "recordBack", fn := fun _ => fun
  | [d1, d2] => { results := [.lit (.bool false)], args := [d1, d2] }
  | _ => none }
def RecordBackWrongFalsely : Prop := recordBackRow.holds Try.pinned (OpenSpec.ofChange recordBackWrong)

/-- 'undercroftlaw03.RecordAgain': WHATEVER THE INPUT: true; the input reads as it did. -/
def recordAgainSpec : ChangeSpec := { name := "recordAgain", fn := fun _ => fun
  | [d1, d2] => { results := [.lit (.bool true)], args := [d1, d2] }
  | _ => none }
def recordAgainRow : OpenClaim := { program := "ytpihpabofgmahaa", sum := "9edc0e2428cf9e621d7dfc08cf446e88a6e0e635a3177770601a32e671bb13e4", func := "undercroft/undercroftlaw03.RecordAgain", spec := "recordAgain", apart := false }
def RecordAgainSaid : Prop := recordAgainRow.holds Try.pinned (OpenSpec.ofChange recordAgainSpec)

/-- ITS FALSE NEIGHBOUR: 'it returns false'. Refute it at one input. -/
def recordAgainWrong : ChangeSpec := { name := "recordAgain", fn := fun _ => fun
  | [d1, d2] => { results := [.lit (.bool false)], args := [d1, d2] }
  | _ => none }
def RecordAgainWrongFalsely : Prop := recordAgainRow.holds Try.pinned (OpenSpec.ofChange recordAgainWrong)

/-- 'undercroftlaw03.RecordTorn': WHATEVER THE INPUT: true; the input reads as it did. -/
def recordTornSpec : ChangeSpec := { name := "recordTorn", fn := fun _ => fun
  | [d1, d2, d3] => { results := [.lit (.bool true)], args := [d1, d2, d3] }
  | _ => none }
def recordTornRow : OpenClaim := { program := "ytpihpabofgmahaa", sum := "9edc0e2428cf9e621d7dfc08cf446e88a6e0e635a3177770601a32e671bb13e4", func := "undercroft/undercroftlaw03.RecordTorn", spec := "recordTorn", apart := false }
def RecordTornSaid : Prop := recordTornRow.holds Try.pinned (OpenSpec.ofChange recordTornSpec)

/-- ITS FALSE NEIGHBOUR: 'it returns false'. Refute it at one input. -/
def recordTornWrong : ChangeSpec := { name := "recordTorn", fn := fun _ => fun
  | [d1, d2, d3] => { results := [.lit (.bool false)], args := [d1, d2, d3] }
  | _ => none }
def RecordTornWrongFalsely : Prop := recordTornRow.holds Try.pinned (OpenSpec.ofChange recordTornWrong)

/-- 'undercroftlaw03.RecordKeeps': WHATEVER THE INPUT: true; the input reads as it did. -/
def recordKeepsSpec : ChangeSpec := { name := "recordKeeps", fn := fun _ => fun
  | [d] => { results := [.lit (.bool true)], args := [d] }
  | _ => none }
def recordKeepsRow : OpenClaim := { program := "ytpihpabofgmahaa", sum := "9edc0e2428cf9e621d7dfc08cf446e88a6e0e635a3177770601a32e671bb13e4", func := "undercroft/undercroftlaw03.RecordKeeps", spec := "recordKeeps", apart := false }
def RecordKeepsSaid : Prop := recordKeepsRow.holds Try.pinned (OpenSpec.ofChange recordKeepsSpec)

/-- ITS FALSE NEIGHBOUR: 'it returns false'. Refute it at one input. -/
def recordKeepsWrong : ChangeSpec := { name := "recordKeeps", fn := fun _ => fun
  | [d] => { results := [.lit (.bool false)], args := [d] }
  | _ => none }
def RecordKeepsWrongFalsely : Prop := recordKeepsRow.holds Try.pinned (OpenSpec.ofChange recordKeepsWrong)

/-- 'undercroftlaw03.RecordTwo': WHATEVER THE INPUT: true; the input reads as it did. -/
def recordTwoSpec : ChangeSpec := { name := "recordTwo", fn := fun _ => fun
  | [d1, d2] => { results := [.lit (.bool true)], args := [d1, d2] }
  | _ => none }
def recordTwoRow : OpenClaim := { program := "ytpihpabofgmahaa", sum := "9edc0e2428cf9e621d7dfc08cf446e88a6e0e635a3177770601a32e671bb13e4", func := "undercroft/undercroftlaw03.RecordTwo", spec := "recordTwo", apart := false }
def RecordTwoSaid : Prop := recordTwoRow.holds Try.pinned (OpenSpec.ofChange recordTwoSpec)

/-- ITS FALSE NEIGHBOUR: 'it returns false'. Refute it at one input. -/
def recordTwoWrong : ChangeSpec := { name := "recordTwo", fn := fun _ => fun
  | [d1, d2] => { results := [.lit (.bool false)], args := [d1, d2] }
  | _ => none }
def RecordTwoWrongFalsely : Prop := recordTwoRow.holds Try.pinned (OpenSpec.ofChange recordTwoWrong)

/-- 'undercroftlaw03.RecordMarks': WHATEVER THE INPUT: true; the input reads as it did. -/
def recordMarksSpec : ChangeSpec := { name := "recordMarks", fn := fun _ => fun
  | [d] => { results := [.lit (.bool true)], args := [d] }
  | _ => none }
def recordMarksRow : OpenClaim := { program := "ytpihpabofgmahaa", sum := "9edc0e2428cf9e621d7dfc08cf446e88a6e0e635a3177770601a32e671bb13e4", func := "undercroft/undercroftlaw03.RecordMarks", spec := "recordMarks", apart := false }
def RecordMarksSaid : Prop := recordMarksRow.holds Try.pinned (OpenSpec.ofChange recordMarksSpec)

/-- ITS FALSE NEIGHBOUR: 'it returns false'. Refute it at one input. -/
def recordMarksWrong : ChangeSpec := { name := "recordMarks", fn := fun _ => fun
  | [d] => { results := [.lit (.bool false)], args := [d] }
  | _ => none }
def RecordMarksWrongFalsely : Prop := recordMarksRow.holds Try.pinned (OpenSpec.ofChange recordMarksWrong)

/- THE SECOND FORM. 'bulk': how many values and letters a reading holds, each counted each time it is reached (what is shared counts as often as it is met; a slice's spare places count too). A statement '..UptoSaid' is the law's where the arguments, and the package variables that the reading takes, are together of bulk at most 1048576: NARROWER than '..Said'. Prove '..Said' where nothing that the law and all that it calls make is longer than what came in: it says more and counts as full. Else prove '..UptoSaid'. A law counts once. -/
mutual
def uptoBulk {H : Type} : DataW H → Nat
  | .lit (.string bytes) => bytes.length + 1
  | .lit _ => 1
  | .nil => 1
  | .ptr d => uptoBulk d + 1
  | .slice elems spare => uptoBulkAll elems + uptoBulkAll spare + 1
  | .agg parts => uptoBulkAll parts + 1
  | .iface _ d => uptoBulk d + 1
  | .map entries => uptoBulkEntries entries + 1
  | .held _ => 1
def uptoBulkAll {H : Type} : List (DataW H) → Nat
  | [] => 0
  | d :: r => uptoBulk d + uptoBulkAll r
def uptoBulkEntries {H : Type} : List (Lit × DataW H) → Nat
  | [] => 0
  | x :: r => uptoBulkEntry x + uptoBulkEntries r
def uptoBulkEntry {H : Type} : Lit × DataW H → Nat
  | (.string bytes, d) => bytes.length + uptoBulk d + 1
  | (_, d) => uptoBulk d + 1
 end
def uptoSmall : (H : Type) → List (DataW H) → Bool := fun _ ds => decide (uptoBulkAll ds ≤ 1048576)
def OpenSpec.upto (s : _root_.Go.ChangeSpec) : _root_.Go.OpenSpec := { _root_.Go.OpenSpec.ofChange s with cond := some uptoSmall }

/-- 'undercroftlaw03.RecordEncodes', WHERE WHAT IT READS IS OF BULK AT MOST 1048576: true; the input reads as it did. -/
def recordEncodesUptoRow : OpenClaim := { program := "ytpihpabofgmahaa", sum := "9edc0e2428cf9e621d7dfc08cf446e88a6e0e635a3177770601a32e671bb13e4", func := "undercroft/undercroftlaw03.RecordEncodes", spec := "recordEncodes", apart := false, narrowed := true }
def RecordEncodesUptoSaid : Prop := recordEncodesUptoRow.holds Try.pinned (OpenSpec.upto recordEncodesSpec)

/-- 'undercroftlaw03.RecordDecodes', WHERE WHAT IT READS IS OF BULK AT MOST 1048576: true; the input reads as it did. -/
def recordDecodesUptoRow : OpenClaim := { program := "ytpihpabofgmahaa", sum := "9edc0e2428cf9e621d7dfc08cf446e88a6e0e635a3177770601a32e671bb13e4", func := "undercroft/undercroftlaw03.RecordDecodes", spec := "recordDecodes", apart := false, narrowed := true }
def RecordDecodesUptoSaid : Prop := recordDecodesUptoRow.holds Try.pinned (OpenSpec.upto recordDecodesSpec)

/-- 'undercroftlaw03.RecordBack', WHERE WHAT IT READS IS OF BULK AT MOST 1048576: true; the input reads as it did. -/
def recordBackUptoRow : OpenClaim := { program := "ytpihpabofgmahaa", sum := "9edc0e2428cf9e621d7dfc08cf446e88a6e0e635a3177770601a32e671bb13e4", func := "undercroft/undercroftlaw03.RecordBack", spec := "recordBack", apart := false, narrowed := true }
def RecordBackUptoSaid : Prop := recordBackUptoRow.holds Try.pinned (OpenSpec.upto recordBackSpec)

/-- 'undercroftlaw03.RecordAgain', WHERE WHAT IT READS IS OF BULK AT MOST 1048576: true; the input reads as it did. -/
def recordAgainUptoRow : OpenClaim := { program := "ytpihpabofgmahaa", sum := "9edc0e2428cf9e621d7dfc08cf446e88a6e0e635a3177770601a32e671bb13e4", func := "undercroft/undercroftlaw03.RecordAgain", spec := "recordAgain", apart := false, narrowed := true }
def RecordAgainUptoSaid : Prop := recordAgainUptoRow.holds Try.pinned (OpenSpec.upto recordAgainSpec)

/-- 'undercroftlaw03.RecordTorn', WHERE WHAT IT READS IS OF BULK AT MOST 1048576: true; the input reads as it did. -/
def recordTornUptoRow : OpenClaim := { program := "ytpihpabofgmahaa", sum := "9edc0e2428cf9e621d7dfc08cf446e88a6e0e635a3177770601a32e671bb13e4", func := "undercroft/undercroftlaw03.RecordTorn", spec := "recordTorn", apart := false, narrowed := true }
def RecordTornUptoSaid : Prop := recordTornUptoRow.holds Try.pinned (OpenSpec.upto recordTornSpec)

/-- 'undercroftlaw03.RecordKeeps', WHERE WHAT IT READS IS OF BULK AT MOST 1048576: true; the input reads as it did. -/
def recordKeepsUptoRow : OpenClaim := { program := "ytpihpabofgmahaa", sum := "9edc0e2428cf9e621d7dfc08cf446e88a6e0e635a3177770601a32e671bb13e4", func := "undercroft/undercroftlaw03.RecordKeeps", spec := "recordKeeps", apart := false, narrowed := true }
def RecordKeepsUptoSaid : Prop := recordKeepsUptoRow.holds Try.pinned (OpenSpec.upto recordKeepsSpec)

/-- 'undercroftlaw03.RecordTwo', WHERE WHAT IT READS IS OF BULK AT MOST 1048576: true; the input reads as it did. -/
def recordTwoUptoRow : OpenClaim := { program := "ytpihpabofgmahaa", sum := "9edc0e2428cf9e621d7dfc08cf446e88a6e0e635a3177770601a32e671bb13e4", func := "undercroft/undercroftlaw03.RecordTwo", spec := "recordTwo", apart := false, narrowed := true }
def RecordTwoUptoSaid : Prop := recordTwoUptoRow.holds Try.pinned (OpenSpec.upto recordTwoSpec)

/-- 'undercroftlaw03.RecordMarks', WHERE WHAT IT READS IS OF BULK AT MOST 1048576: true; the input reads as it did. -/
def recordMarksUptoRow : OpenClaim := { program := "ytpihpabofgmahaa", sum := "9edc0e2428cf9e621d7dfc08cf446e88a6e0e635a3177770601a32e671bb13e4", func := "undercroft/undercroftlaw03.RecordMarks", spec := "recordMarks", apart := false, narrowed := true }
def RecordMarksUptoSaid : Prop := recordMarksUptoRow.holds Try.pinned (OpenSpec.upto recordMarksSpec)

end Rows
end Go.Proofs.Ytpihpabofgmahaa
