/-
  No cell of these rows narrows 'for every input' (looked for: loops, veiled, ifaces, maps, wideKeys, modest, calm, conditions, laid).
  DERIVED. THE GIVEN ROWS OF THIS SEAT. 6 by the template 'for every input the law returns true; each argument reads behind the call as it read before'; 0 by the template 'total and deterministic' (their statements: YtlieacllpifhkaaTotals.lean).
  GIVEN WITH THE SEED: the statements are not yours to turn. If you find one false, say at which input.
  Laid BY PROGRAM, IN A SANDBOX (cutbox-rows.mjs): the forced cells as the released guide's own fill.sh prints them over the translation 97df0ccd683fb745… (all of the seat's roots in one cut). By AI agents, Wed Nov 11 2026. No macro, syntax, notation, axiom, sorry.
-/
import Derived.Test.YtlieacllpifhkaaChecked
import GoSem.Claim
import GoSem.ClaimJoined
import GoSem.ClaimMapViews
import Derived.JoinedTies
import Derived.KernelRfl
namespace Go.Proofs.Ytlieacllpifhkaa
/- THE CELL 'sum', in the pinned program and in every row, IS THE sha256 OF THE DUMP (.gsa) THAT YtlieacllpifhkaaProg.lean LOADS. Nothing in Lean hashes anything: it is a label: what it is worth is what the hold of that sum in a sandbox is worth. -/
noncomputable def Try.pinned : Pinned := { name := "ytlieacllpifhkaa", sum := "97df0ccd683fb7455a8a7d687c8d697d0770354fe123ac810754fce6e9f51378", checked := Try.checked }
namespace Rows
def none {H : Type} : Left H := { results := [], args := [] }

/-- 'undercroftlaw07.BitsTells': WHATEVER THE INPUT: true; the input reads as it did. -/
def bitsTellsSpec : ChangeSpec := { name := "bitsTells", fn := fun _ => fun
  | [d1, d2, d3] => { results := [.lit (.bool true)], args := [d1, d2, d3] }
  | _ => none }
def bitsTellsRow : OpenClaim := { program := "ytlieacllpifhkaa", sum := "97df0ccd683fb7455a8a7d687c8d697d0770354fe123ac810754fce6e9f51378", func := "undercroft/undercroftlaw07.BitsTells", spec := "bitsTells", unfollowed := true, recurses := true, apart := false }
def BitsTellsSaid : Prop := bitsTellsRow.holds Try.pinned (OpenSpec.ofChange bitsTellsSpec)

/-- ITS FALSE NEIGHBOUR: 'it returns false'. Refute it at one input. -/
def bitsTellsWrong : ChangeSpec := { name := "bitsTells", fn := fun _ => fun
  | [d1, d2, d3] => { results := [.lit (.bool false)], args := [d1, d2, d3] }
  | _ => none }
def BitsTellsWrongFalsely : Prop := bitsTellsRow.holds Try.pinned (OpenSpec.ofChange bitsTellsWrong)

/-- 'undercroftlaw07.BitsFills': WHATEVER THE INPUT: true; the input reads as it did. -/
def bitsFillsSpec : ChangeSpec := { name := "bitsFills", fn := fun _ => fun
  | [d1, d2, d3] => { results := [.lit (.bool true)], args := [d1, d2, d3] }
  | _ => none }
def bitsFillsRow : OpenClaim := { program := "ytlieacllpifhkaa", sum := "97df0ccd683fb7455a8a7d687c8d697d0770354fe123ac810754fce6e9f51378", func := "undercroft/undercroftlaw07.BitsFills", spec := "bitsFills", unfollowed := true, recurses := true, apart := false }
def BitsFillsSaid : Prop := bitsFillsRow.holds Try.pinned (OpenSpec.ofChange bitsFillsSpec)

/-- ITS FALSE NEIGHBOUR: 'it returns false'. Refute it at one input. -/
def bitsFillsWrong : ChangeSpec := { name := "bitsFills", fn := fun _ => fun
  | [d1, d2, d3] => { results := [.lit (.bool false)], args := [d1, d2, d3] }
  | _ => none }
def BitsFillsWrongFalsely : Prop := bitsFillsRow.holds Try.pinned (OpenSpec.ofChange bitsFillsWrong)

/-- 'undercroftlaw07.BitsCounts': WHATEVER THE INPUT: true; the input reads as it did. -/
def bitsCountsSpec : ChangeSpec := { name := "bitsCounts", fn := fun _ => fun
  | [d1, d2] => { results := [.lit (.bool true)], args := [d1, d2] }
  | _ => none }
def bitsCountsRow : OpenClaim := { program := "ytlieacllpifhkaa", sum := "97df0ccd683fb7455a8a7d687c8d697d0770354fe123ac810754fce6e9f51378", func := "undercroft/undercroftlaw07.BitsCounts", spec := "bitsCounts", unfollowed := true, recurses := true, apart := false }
def BitsCountsSaid : Prop := bitsCountsRow.holds Try.pinned (OpenSpec.ofChange bitsCountsSpec)

/-- ITS FALSE NEIGHBOUR: 'it returns false'. Refute it at one input. -/
def bitsCountsWrong : ChangeSpec := { name := "bitsCounts", fn := fun _ => fun
  | [d1, d2] => { results := [.lit (.bool false)], args := [d1, d2] }
  | _ => none }
def BitsCountsWrongFalsely : Prop := bitsCountsRow.holds Try.pinned (OpenSpec.ofChange bitsCountsWrong)

/-- 'undercroftlaw07.BitsLongest': WHATEVER THE INPUT: true; the input reads as it did. -/
def bitsLongestSpec : ChangeSpec := { name := "bitsLongest", fn := fun _ => fun
  | [d1, d2, d3] => { results := [.lit (.bool true)], args := [d1, d2, d3] }
  | _ => none }
def bitsLongestRow : OpenClaim := { program := "ytlieacllpifhkaa", sum := "97df0ccd683fb7455a8a7d687c8d697d0770354fe123ac810754fce6e9f51378", func := "undercroft/undercroftlaw07.BitsLongest", spec := "bitsLongest", unfollowed := true, recurses := true, apart := false }
def BitsLongestSaid : Prop := bitsLongestRow.holds Try.pinned (OpenSpec.ofChange bitsLongestSpec)

/-- ITS FALSE NEIGHBOUR: 'it returns false'. Refute it at one input. -/
def bitsLongestWrong : ChangeSpec := { name := "bitsLongest", fn := fun _ => fun
  | [d1, d2, d3] => { results := [.lit (.bool false)], args := [d1, d2, d3] }
  | _ => none }
def BitsLongestWrongFalsely : Prop := bitsLongestRow.holds Try.pinned (OpenSpec.ofChange bitsLongestWrong)

/-- 'undercroftlaw07.BitsTurns': WHATEVER THE INPUT: true; the input reads as it did. -/
def bitsTurnsSpec : ChangeSpec := { name := "bitsTurns", fn := fun _ => fun
  | [d1, d2, d3] => { results := [.lit (.bool true)], args := [d1, d2, d3] }
  | _ => none }
def bitsTurnsRow : OpenClaim := { program := "ytlieacllpifhkaa", sum := "97df0ccd683fb7455a8a7d687c8d697d0770354fe123ac810754fce6e9f51378", func := "undercroft/undercroftlaw07.BitsTurns", spec := "bitsTurns", unfollowed := true, recurses := true, apart := false }
def BitsTurnsSaid : Prop := bitsTurnsRow.holds Try.pinned (OpenSpec.ofChange bitsTurnsSpec)

/-- ITS FALSE NEIGHBOUR: 'it returns false'. Refute it at one input. -/
def bitsTurnsWrong : ChangeSpec := { name := "bitsTurns", fn := fun _ => fun
  | [d1, d2, d3] => { results := [.lit (.bool false)], args := [d1, d2, d3] }
  | _ => none }
def BitsTurnsWrongFalsely : Prop := bitsTurnsRow.holds Try.pinned (OpenSpec.ofChange bitsTurnsWrong)

/-- 'undercroftlaw07.BitsPuts': WHATEVER THE INPUT: true; the input reads as it did. -/
def bitsPutsSpec : ChangeSpec := { name := "bitsPuts", fn := fun _ => fun
  | [d1, d2, d3] => { results := [.lit (.bool true)], args := [d1, d2, d3] }
  | _ => none }
def bitsPutsRow : OpenClaim := { program := "ytlieacllpifhkaa", sum := "97df0ccd683fb7455a8a7d687c8d697d0770354fe123ac810754fce6e9f51378", func := "undercroft/undercroftlaw07.BitsPuts", spec := "bitsPuts", unfollowed := true, recurses := true, apart := false }
def BitsPutsSaid : Prop := bitsPutsRow.holds Try.pinned (OpenSpec.ofChange bitsPutsSpec)

/-- ITS FALSE NEIGHBOUR: 'it returns false'. Refute it at one input. -/
def bitsPutsWrong : ChangeSpec := { name := "bitsPuts", fn := fun _ => fun
  | [d1, d2, d3] => { results := [.lit (.bool false)], args := [d1, d2, d3] }
  | _ => none }
def BitsPutsWrongFalsely : Prop := bitsPutsRow.holds Try.pinned (OpenSpec.ofChange bitsPutsWrong)

/- THE SECOND FORM. 'bulk': how many values and letters a reading holds, each counted each time it is reached (what is shared counts as often as it is met; a slice's spare places count too). A statement '..UptoSaid' is the law's where the arguments, and the package variables that the reading takes, are together of bulk at most 1048576: NARROWER than '..Said'. Prove '..Said' where nothing that the law and all that it calls make is longer than what came in: it says more and counts as full. Else prove '..UptoSaid'. A law counts once. -/
mutual
def uptoBulk {H : Type} : DataW H → Nat
  | .lit (.string bytes) => bytes.length + 1
  | .lit _ => 1
  | .nil => 1
  | .ptr d => uptoBulk d + 1
  | .slice elems spare => uptoBulkAll elems + uptoBulkAll spare + 1
  | .agg parts => uptoBulkAll parts + 1
  | .iface _ d => uptoBulk d + 1
  | .map entries => uptoBulkEntries entries + 1
  | .held _ => 1
def uptoBulkAll {H : Type} : List (DataW H) → Nat
  | [] => 0
  | d :: r => uptoBulk d + uptoBulkAll r
def uptoBulkEntries {H : Type} : List (Lit × DataW H) → Nat
  | [] => 0
  | x :: r => uptoBulkEntry x + uptoBulkEntries r
def uptoBulkEntry {H : Type} : Lit × DataW H → Nat
  | (.string bytes, d) => bytes.length + uptoBulk d + 1
  | (_, d) => uptoBulk d + 1
 end
def uptoSmall : (H : Type) → List (DataW H) → Bool := fun _ ds => decide (uptoBulkAll ds ≤ 1048576)
def OpenSpec.upto (s : _root_.Go.ChangeSpec) : _root_.Go.OpenSpec := { _root_.Go.OpenSpec.ofChange s with cond := some uptoSmall }

/-- 'undercroftlaw07.BitsTells', WHERE WHAT IT READS IS OF BULK AT MOST 1048576: true; the input reads as it did. -/
def bitsTellsUptoRow : OpenClaim := { program := "ytlieacllpifhkaa", sum := "97df0ccd683fb7455a8a7d687c8d697d0770354fe123ac810754fce6e9f51378", func := "undercroft/undercroftlaw07.BitsTells", spec := "bitsTells", unfollowed := true, recurses := true, apart := false, narrowed := true }
def BitsTellsUptoSaid : Prop := bitsTellsUptoRow.holds Try.pinned (OpenSpec.upto bitsTellsSpec)

/-- 'undercroftlaw07.BitsFills', WHERE WHAT IT READS IS OF BULK AT MOST 1048576: true; the input reads as it did. -/
def bitsFillsUptoRow : OpenClaim := { program := "ytlieacllpifhkaa", sum := "97df0ccd683fb7455a8a7d687c8d697d0770354fe123ac810754fce6e9f51378", func := "undercroft/undercroftlaw07.BitsFills", spec := "bitsFills", unfollowed := true, recurses := true, apart := false, narrowed := true }
def BitsFillsUptoSaid : Prop := bitsFillsUptoRow.holds Try.pinned (OpenSpec.upto bitsFillsSpec)

/-- 'undercroftlaw07.BitsCounts', WHERE WHAT IT READS IS OF BULK AT MOST 1048576: true; the input reads as it did. -/
def bitsCountsUptoRow : OpenClaim := { program := "ytlieacllpifhkaa", sum := "97df0ccd683fb7455a8a7d687c8d697d0770354fe123ac810754fce6e9f51378", func := "undercroft/undercroftlaw07.BitsCounts", spec := "bitsCounts", unfollowed := true, recurses := true, apart := false, narrowed := true }
def BitsCountsUptoSaid : Prop := bitsCountsUptoRow.holds Try.pinned (OpenSpec.upto bitsCountsSpec)

/-- 'undercroftlaw07.BitsLongest', WHERE WHAT IT READS IS OF BULK AT MOST 1048576: true; the input reads as it did. -/
def bitsLongestUptoRow : OpenClaim := { program := "ytlieacllpifhkaa", sum := "97df0ccd683fb7455a8a7d687c8d697d0770354fe123ac810754fce6e9f51378", func := "undercroft/undercroftlaw07.BitsLongest", spec := "bitsLongest", unfollowed := true, recurses := true, apart := false, narrowed := true }
def BitsLongestUptoSaid : Prop := bitsLongestUptoRow.holds Try.pinned (OpenSpec.upto bitsLongestSpec)

/-- 'undercroftlaw07.BitsTurns', WHERE WHAT IT READS IS OF BULK AT MOST 1048576: true; the input reads as it did. -/
def bitsTurnsUptoRow : OpenClaim := { program := "ytlieacllpifhkaa", sum := "97df0ccd683fb7455a8a7d687c8d697d0770354fe123ac810754fce6e9f51378", func := "undercroft/undercroftlaw07.BitsTurns", spec := "bitsTurns", unfollowed := true, recurses := true, apart := false, narrowed := true }
def BitsTurnsUptoSaid : Prop := bitsTurnsUptoRow.holds Try.pinned (OpenSpec.upto bitsTurnsSpec)

/-- 'undercroftlaw07.BitsPuts', WHERE WHAT IT READS IS OF BULK AT MOST 1048576: true; the input reads as it did. -/
def bitsPutsUptoRow : OpenClaim := { program := "ytlieacllpifhkaa", sum := "97df0ccd683fb7455a8a7d687c8d697d0770354fe123ac810754fce6e9f51378", func := "undercroft/undercroftlaw07.BitsPuts", spec := "bitsPuts", unfollowed := true, recurses := true, apart := false, narrowed := true }
def BitsPutsUptoSaid : Prop := bitsPutsUptoRow.holds Try.pinned (OpenSpec.upto bitsPutsSpec)

end Rows
end Go.Proofs.Ytlieacllpifhkaa
