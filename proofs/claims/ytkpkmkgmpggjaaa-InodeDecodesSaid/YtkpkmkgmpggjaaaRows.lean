/-
  No cell of these rows narrows 'for every input' (looked for: loops, veiled, ifaces, maps, wideKeys, modest, calm, conditions, laid).
  DERIVED. THE GIVEN ROWS OF THIS SEAT. 5 by the template 'for every input the law returns true; each argument reads behind the call as it read before'; 0 by the template 'total and deterministic' (their statements: YtkpkmkgmpggjaaaTotals.lean).
  GIVEN WITH THE SEED: the statements are not yours to turn. If you find one false, say at which input.
  Laid BY PROGRAM, IN A SANDBOX (cutbox-rows.mjs): the forced cells as the released guide's own fill.sh prints them over the translation 16b5dfb55c22f8fb… (all of the seat's roots in one cut). By AI agents, Wed Nov 11 2026. No macro, syntax, notation, axiom, sorry.
-/
import Derived.Test.YtkpkmkgmpggjaaaChecked
import GoSem.Claim
import GoSem.ClaimJoined
import GoSem.ClaimMapViews
import Derived.JoinedTies
import Derived.KernelRfl
namespace Go.Proofs.Ytkpkmkgmpggjaaa
/- THE CELL 'sum', in the pinned program and in every row, IS THE sha256 OF THE DUMP (.gsa) THAT YtkpkmkgmpggjaaaProg.lean LOADS. Nothing in Lean hashes anything: it is a label: what it is worth is what the hold of that sum in a sandbox is worth. -/
noncomputable def Try.pinned : Pinned := { name := "ytkpkmkgmpggjaaa", sum := "16b5dfb55c22f8fbc6060a2079f56cef898a818da17b8499bb75beb926167782", checked := Try.checked }
namespace Rows
def none {H : Type} : Left H := { results := [], args := [] }

/-- 'undercroftlaw09.InodeEncodes': WHATEVER THE INPUT: true; the input reads as it did. -/
def inodeEncodesSpec : ChangeSpec := { name := "inodeEncodes", fn := fun _ => fun
  | [d1, d2] => { results := [.lit (.bool true)], args := [d1, d2] }
  | _ => none }
def inodeEncodesRow : OpenClaim := { program := "ytkpkmkgmpggjaaa", sum := "16b5dfb55c22f8fbc6060a2079f56cef898a818da17b8499bb75beb926167782", func := "undercroft/undercroftlaw09.InodeEncodes", spec := "inodeEncodes", apart := false }
def InodeEncodesSaid : Prop := inodeEncodesRow.holds Try.pinned (OpenSpec.ofChange inodeEncodesSpec)

/-- ITS FALSE NEIGHBOUR: 'it returns false'. Refute it at one input. -/
def inodeEncodesWrong : ChangeSpec := { name := "inodeEncodes", fn := fun _ => fun
  | [d1, d2] => { results := [.lit (.bool false)], args := [d1, d2] }
  | _ => none }
def InodeEncodesWrongFalsely : Prop := inodeEncodesRow.holds Try.pinned (OpenSpec.ofChange inodeEncodesWrong)

/-- 'undercroftlaw09.InodeDecodes': WHATEVER THE INPUT: true; the input reads as it did. -/
def inodeDecodesSpec : ChangeSpec := { name := "inodeDecodes", fn := fun _ => fun
  | [d1, d2] => { results := [.lit (.bool true)], args := [d1, d2] }
  | _ => none }
def inodeDecodesRow : OpenClaim := { program := "ytkpkmkgmpggjaaa", sum := "16b5dfb55c22f8fbc6060a2079f56cef898a818da17b8499bb75beb926167782", func := "undercroft/undercroftlaw09.InodeDecodes", spec := "inodeDecodes", apart := false }
def InodeDecodesSaid : Prop := inodeDecodesRow.holds Try.pinned (OpenSpec.ofChange inodeDecodesSpec)

/-- ITS FALSE NEIGHBOUR: 'it returns false'. Refute it at one input. -/
def inodeDecodesWrong : ChangeSpec := { name := "inodeDecodes", fn := fun _ => fun
  | [d1, d2] => { results := [.lit (.bool false)], args := [d1, d2] }
  | _ => none }
def InodeDecodesWrongFalsely : Prop := inodeDecodesRow.holds Try.pinned (OpenSpec.ofChange inodeDecodesWrong)

/-- 'undercroftlaw09.InodeBack': WHATEVER THE INPUT: true; the input reads as it did. -/
def inodeBackSpec : ChangeSpec := { name := "inodeBack", fn := fun _ => fun
  | [d1, d2, d3] => { results := [.lit (.bool true)], args := [d1, d2, d3] }
  | _ => none }
def inodeBackRow : OpenClaim := { program := "ytkpkmkgmpggjaaa", sum := "16b5dfb55c22f8fbc6060a2079f56cef898a818da17b8499bb75beb926167782", func := "undercroft/undercroftlaw09.InodeBack", spec := "inodeBack", apart := false }
def InodeBackSaid : Prop := inodeBackRow.holds Try.pinned (OpenSpec.ofChange inodeBackSpec)

/-- ITS FALSE NEIGHBOUR: 'it returns false'. Refute it at one input. -/
def inodeBackWrong : ChangeSpec := { name := "inodeBack", fn := fun _ => fun
  | [d1, d2, d3] => { results := [.lit (.bool false)], args := [d1, d2, d3] }
  | _ => none }
def InodeBackWrongFalsely : Prop := inodeBackRow.holds Try.pinned (OpenSpec.ofChange inodeBackWrong)

/-- 'undercroftlaw09.InodeTurned': WHATEVER THE INPUT: true; the input reads as it did. -/
def inodeTurnedSpec : ChangeSpec := { name := "inodeTurned", fn := fun _ => fun
  | [d1, d2, d3] => { results := [.lit (.bool true)], args := [d1, d2, d3] }
  | _ => none }
def inodeTurnedRow : OpenClaim := { program := "ytkpkmkgmpggjaaa", sum := "16b5dfb55c22f8fbc6060a2079f56cef898a818da17b8499bb75beb926167782", func := "undercroft/undercroftlaw09.InodeTurned", spec := "inodeTurned", apart := false }
def InodeTurnedSaid : Prop := inodeTurnedRow.holds Try.pinned (OpenSpec.ofChange inodeTurnedSpec)

/-- ITS FALSE NEIGHBOUR: 'it returns false'. Refute it at one input. -/
def inodeTurnedWrong : ChangeSpec := { name := "inodeTurned", fn := fun _ => fun
  | [d1, d2, d3] => { results := [.lit (.bool false)], args := [d1, d2, d3] }
  | _ => none }
def InodeTurnedWrongFalsely : Prop := inodeTurnedRow.holds Try.pinned (OpenSpec.ofChange inodeTurnedWrong)

/-- 'undercroftlaw09.InodeAgain': WHATEVER THE INPUT: true; the input reads as it did. -/
def inodeAgainSpec : ChangeSpec := { name := "inodeAgain", fn := fun _ => fun
  | [d1, d2] => { results := [.lit (.bool true)], args := [d1, d2] }
  | _ => none }
def inodeAgainRow : OpenClaim := { program := "ytkpkmkgmpggjaaa", sum := "16b5dfb55c22f8fbc6060a2079f56cef898a818da17b8499bb75beb926167782", func := "undercroft/undercroftlaw09.InodeAgain", spec := "inodeAgain", apart := false }
def InodeAgainSaid : Prop := inodeAgainRow.holds Try.pinned (OpenSpec.ofChange inodeAgainSpec)

/-- ITS FALSE NEIGHBOUR: 'it returns false'. Refute it at one input. -/
def inodeAgainWrong : ChangeSpec := { name := "inodeAgain", fn := fun _ => fun
  | [d1, d2] => { results := [.lit (.bool false)], args := [d1, d2] }
  | _ => none }
def InodeAgainWrongFalsely : Prop := inodeAgainRow.holds Try.pinned (OpenSpec.ofChange inodeAgainWrong)

/- THE SECOND FORM. 'bulk': how many values and letters a reading holds, each counted each time it is reached (what is shared counts as often as it is met; a slice's spare places count too). A statement '..UptoSaid' is the law's where the arguments, and the package variables that the reading takes, are together of bulk at most 1048576: NARROWER than '..Said'. Prove '..Said' where nothing that the law and all that it calls make is longer than what came in: it says more and counts as full. Else prove '..UptoSaid'. A law counts once. -/
mutual
def uptoBulk {H : Type} : DataW H → Nat
  | .lit (.string bytes) => bytes.length + 1
  | .lit _ => 1
  | .nil => 1
  | .ptr d => uptoBulk d + 1
  | .slice elems spare => uptoBulkAll elems + uptoBulkAll spare + 1
  | .agg parts => uptoBulkAll parts + 1
  | .iface _ d => uptoBulk d + 1
  | .map entries => uptoBulkEntries entries + 1
  | .held _ => 1
def uptoBulkAll {H : Type} : List (DataW H) → Nat
  | [] => 0
  | d :: r => uptoBulk d + uptoBulkAll r
def uptoBulkEntries {H : Type} : List (Lit × DataW H) → Nat
  | [] => 0
  | x :: r => uptoBulkEntry x + uptoBulkEntries r
def uptoBulkEntry {H : Type} : Lit × DataW H → Nat
  | (.string bytes, d) => bytes.length + uptoBulk d + 1
  | (_, d) => uptoBulk d + 1
 end
def uptoSmall : (H : Type) → List (DataW H) → Bool := fun _ ds => decide (uptoBulkAll ds ≤ 1048576)
def OpenSpec.upto (s : _root_.Go.ChangeSpec) : _root_.Go.OpenSpec := { _root_.Go.OpenSpec.ofChange s with cond := some uptoSmall }

/-- 'undercroftlaw09.InodeEncodes', WHERE WHAT IT READS IS OF BULK AT MOST 1048576: true; the input reads as it did. -/
def inodeEncodesUptoRow : OpenClaim := { program := "ytkpkmkgmpggjaaa", sum := "16b5dfb55c22f8fbc6060a2079f56cef898a818da17b8499bb75beb926167782", func := "undercroft/undercroftlaw09.InodeEncodes", spec := "inodeEncodes", apart := false, narrowed := true }
def InodeEncodesUptoSaid : Prop := inodeEncodesUptoRow.holds Try.pinned (OpenSpec.upto inodeEncodesSpec)

/-- 'undercroftlaw09.InodeDecodes', WHERE WHAT IT READS IS OF BULK AT MOST 1048576: true; the input reads as it did. -/
def inodeDecodesUptoRow : OpenClaim := { program := "ytkpkmkgmpggjaaa", sum := "16b5dfb55c22f8fbc6060a2079f56cef898a818da17b8499bb75beb926167782", func := "undercroft/undercroftlaw09.InodeDecodes", spec := "inodeDecodes", apart := false, narrowed := true }
def InodeDecodesUptoSaid : Prop := inodeDecodesUptoRow.holds Try.pinned (OpenSpec.upto inodeDecodesSpec)

/-- 'undercroftlaw09.InodeBack', WHERE WHAT IT READS IS OF BULK AT MOST 1048576: true; the input reads as it did. -/
def inodeBackUptoRow : OpenClaim := { program := "ytkpkmkgmpggjaaa", sum := "16b5dfb55c22f8fbc6060a2079f56cef898a818da17b8499bb75beb926167782", func := "undercroft/undercroftlaw09.InodeBack", spec := "inodeBack", apart := false, narrowed := true }
def InodeBackUptoSaid : Prop := inodeBackUptoRow.holds Try.pinned (OpenSpec.upto inodeBackSpec)

/-- 'undercroftlaw09.InodeTurned', WHERE WHAT IT READS IS OF BULK AT MOST 1048576: true; the input reads as it did. -/
def inodeTurnedUptoRow : OpenClaim := { program := "ytkpkmkgmpggjaaa", sum := "16b5dfb55c22f8fbc6060a2079f56cef898a818da17b8499bb75beb926167782", func := "undercroft/undercroftlaw09.InodeTurned", spec := "inodeTurned", apart := false, narrowed := true }
def InodeTurnedUptoSaid : Prop := inodeTurnedUptoRow.holds Try.pinned (OpenSpec.upto inodeTurnedSpec)

/-- 'undercroftlaw09.InodeAgain', WHERE WHAT IT READS IS OF BULK AT MOST 1048576: true; the input reads as it did. -/
def inodeAgainUptoRow : OpenClaim := { program := "ytkpkmkgmpggjaaa", sum := "16b5dfb55c22f8fbc6060a2079f56cef898a818da17b8499bb75beb926167782", func := "undercroft/undercroftlaw09.InodeAgain", spec := "inodeAgain", apart := false, narrowed := true }
def InodeAgainUptoSaid : Prop := inodeAgainUptoRow.holds Try.pinned (OpenSpec.upto inodeAgainSpec)

end Rows
end Go.Proofs.Ytkpkmkgmpggjaaa
