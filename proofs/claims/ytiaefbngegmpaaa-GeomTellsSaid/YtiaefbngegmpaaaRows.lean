/-
  No cell of these rows narrows 'for every input' (looked for: loops, veiled, ifaces, maps, wideKeys, modest, calm, conditions, laid).
  DERIVED. THE GIVEN ROWS OF THIS SEAT. 5 by the template 'for every input the law returns true; each argument reads behind the call as it read before'; 0 by the template 'total and deterministic' (their statements: YtiaefbngegmpaaaTotals.lean).
  GIVEN WITH THE SEED: the statements are not yours to turn. If you find one false, say at which input.
  Laid BY PROGRAM, IN A SANDBOX (cutbox-rows.mjs): the forced cells as the released guide's own fill.sh prints them over the translation f2210a6ab54dceef… (all of the seat's roots in one cut). By AI agents, Wed Nov 11 2026. No macro, syntax, notation, axiom, sorry.
-/
import Derived.Test.YtiaefbngegmpaaaChecked
import GoSem.Claim
import GoSem.ClaimJoined
import GoSem.ClaimMapViews
import Derived.JoinedTies
import Derived.KernelRfl
namespace Go.Proofs.Ytiaefbngegmpaaa
/- THE CELL 'sum', in the pinned program and in every row, IS THE sha256 OF THE DUMP (.gsa) THAT YtiaefbngegmpaaaProg.lean LOADS. Nothing in Lean hashes anything: it is a label: what it is worth is what the hold of that sum in a sandbox is worth. -/
noncomputable def Try.pinned : Pinned := { name := "ytiaefbngegmpaaa", sum := "f2210a6ab54dceef6a3e6575ba725a796076bedbb9daefad05aa06007d713e1f", checked := Try.checked }
namespace Rows
def none {H : Type} : Left H := { results := [], args := [] }

/-- 'undercroftlaw06.GeomGrows': WHATEVER THE INPUT: true; the input reads as it did. -/
def geomGrowsSpec : ChangeSpec := { name := "geomGrows", fn := fun _ => fun
  | [d1, d2] => { results := [.lit (.bool true)], args := [d1, d2] }
  | _ => none }
def geomGrowsRow : OpenClaim := { program := "ytiaefbngegmpaaa", sum := "f2210a6ab54dceef6a3e6575ba725a796076bedbb9daefad05aa06007d713e1f", func := "undercroft/undercroftlaw06.GeomGrows", spec := "geomGrows", plainKeys := false, apart := false }
def GeomGrowsSaid : Prop := geomGrowsRow.holds Try.pinned (OpenSpec.ofChange geomGrowsSpec)

/-- ITS FALSE NEIGHBOUR: 'it returns false'. Refute it at one input. -/
def geomGrowsWrong : ChangeSpec := { name := "geomGrows", fn := fun _ => fun
  | [d1, d2] => { results := [.lit (.bool false)], args := [d1, d2] }
  | _ => none }
def GeomGrowsWrongFalsely : Prop := geomGrowsRow.holds Try.pinned (OpenSpec.ofChange geomGrowsWrong)

/-- 'undercroftlaw06.GeomTells': WHATEVER THE INPUT: true; the input reads as it did. -/
def geomTellsSpec : ChangeSpec := { name := "geomTells", fn := fun _ => fun
  | [d1, d2, d3] => { results := [.lit (.bool true)], args := [d1, d2, d3] }
  | _ => none }
def geomTellsRow : OpenClaim := { program := "ytiaefbngegmpaaa", sum := "f2210a6ab54dceef6a3e6575ba725a796076bedbb9daefad05aa06007d713e1f", func := "undercroft/undercroftlaw06.GeomTells", spec := "geomTells", plainKeys := false, apart := false }
def GeomTellsSaid : Prop := geomTellsRow.holds Try.pinned (OpenSpec.ofChange geomTellsSpec)

/-- ITS FALSE NEIGHBOUR: 'it returns false'. Refute it at one input. -/
def geomTellsWrong : ChangeSpec := { name := "geomTells", fn := fun _ => fun
  | [d1, d2, d3] => { results := [.lit (.bool false)], args := [d1, d2, d3] }
  | _ => none }
def GeomTellsWrongFalsely : Prop := geomTellsRow.holds Try.pinned (OpenSpec.ofChange geomTellsWrong)

/-- 'undercroftlaw06.GeomParts': WHATEVER THE INPUT: true; the input reads as it did. -/
def geomPartsSpec : ChangeSpec := { name := "geomParts", fn := fun _ => fun
  | [d] => { results := [.lit (.bool true)], args := [d] }
  | _ => none }
def geomPartsRow : OpenClaim := { program := "ytiaefbngegmpaaa", sum := "f2210a6ab54dceef6a3e6575ba725a796076bedbb9daefad05aa06007d713e1f", func := "undercroft/undercroftlaw06.GeomParts", spec := "geomParts", plainKeys := false, apart := false }
def GeomPartsSaid : Prop := geomPartsRow.holds Try.pinned (OpenSpec.ofChange geomPartsSpec)

/-- ITS FALSE NEIGHBOUR: 'it returns false'. Refute it at one input. -/
def geomPartsWrong : ChangeSpec := { name := "geomParts", fn := fun _ => fun
  | [d] => { results := [.lit (.bool false)], args := [d] }
  | _ => none }
def GeomPartsWrongFalsely : Prop := geomPartsRow.holds Try.pinned (OpenSpec.ofChange geomPartsWrong)

/-- 'undercroftlaw06.GeomReads': WHATEVER THE INPUT: true; the input reads as it did. -/
def geomReadsSpec : ChangeSpec := { name := "geomReads", fn := fun _ => fun
  | [d] => { results := [.lit (.bool true)], args := [d] }
  | _ => none }
def geomReadsRow : OpenClaim := { program := "ytiaefbngegmpaaa", sum := "f2210a6ab54dceef6a3e6575ba725a796076bedbb9daefad05aa06007d713e1f", func := "undercroft/undercroftlaw06.GeomReads", spec := "geomReads", plainKeys := false, apart := false }
def GeomReadsSaid : Prop := geomReadsRow.holds Try.pinned (OpenSpec.ofChange geomReadsSpec)

/-- ITS FALSE NEIGHBOUR: 'it returns false'. Refute it at one input. -/
def geomReadsWrong : ChangeSpec := { name := "geomReads", fn := fun _ => fun
  | [d] => { results := [.lit (.bool false)], args := [d] }
  | _ => none }
def GeomReadsWrongFalsely : Prop := geomReadsRow.holds Try.pinned (OpenSpec.ofChange geomReadsWrong)

/-- 'undercroftlaw06.GeomBack': WHATEVER THE INPUT: true; the input reads as it did. -/
def geomBackSpec : ChangeSpec := { name := "geomBack", fn := fun _ => fun
  | [d1, d2, d3] => { results := [.lit (.bool true)], args := [d1, d2, d3] }
  | _ => none }
def geomBackRow : OpenClaim := { program := "ytiaefbngegmpaaa", sum := "f2210a6ab54dceef6a3e6575ba725a796076bedbb9daefad05aa06007d713e1f", func := "undercroft/undercroftlaw06.GeomBack", spec := "geomBack", plainKeys := false, apart := false }
def GeomBackSaid : Prop := geomBackRow.holds Try.pinned (OpenSpec.ofChange geomBackSpec)

/-- ITS FALSE NEIGHBOUR: 'it returns false'. Refute it at one input. -/
def geomBackWrong : ChangeSpec := { name := "geomBack", fn := fun _ => fun
  | [d1, d2, d3] => { results := [.lit (.bool false)], args := [d1, d2, d3] }
  | _ => none }
def GeomBackWrongFalsely : Prop := geomBackRow.holds Try.pinned (OpenSpec.ofChange geomBackWrong)

/- THE SECOND FORM. 'bulk': how many values and letters a reading holds, each counted each time it is reached (what is shared counts as often as it is met; a slice's spare places count too). A statement '..UptoSaid' is the law's where the arguments, and the package variables that the reading takes, are together of bulk at most 1048576: NARROWER than '..Said'. Prove '..Said' where nothing that the law and all that it calls make is longer than what came in: it says more and counts as full. Else prove '..UptoSaid'. A law counts once. -/
mutual
def uptoBulk {H : Type} : DataW H → Nat
  | .lit (.string bytes) => bytes.length + 1
  | .lit _ => 1
  | .nil => 1
  | .ptr d => uptoBulk d + 1
  | .slice elems spare => uptoBulkAll elems + uptoBulkAll spare + 1
  | .agg parts => uptoBulkAll parts + 1
  | .iface _ d => uptoBulk d + 1
  | .map entries => uptoBulkEntries entries + 1
  | .held _ => 1
def uptoBulkAll {H : Type} : List (DataW H) → Nat
  | [] => 0
  | d :: r => uptoBulk d + uptoBulkAll r
def uptoBulkEntries {H : Type} : List (Lit × DataW H) → Nat
  | [] => 0
  | x :: r => uptoBulkEntry x + uptoBulkEntries r
def uptoBulkEntry {H : Type} : Lit × DataW H → Nat
  | (.string bytes, d) => bytes.length + uptoBulk d + 1
  | (_, d) => uptoBulk d + 1
 end
def uptoSmall : (H : Type) → List (DataW H) → Bool := fun _ ds => decide (uptoBulkAll ds ≤ 1048576)
def OpenSpec.upto (s : _root_.Go.ChangeSpec) : _root_.Go.OpenSpec := { _root_.Go.OpenSpec.ofChange s with cond := some uptoSmall }

/-- 'undercroftlaw06.GeomGrows', WHERE WHAT IT READS IS OF BULK AT MOST 1048576: true; the input reads as it did. -/
def geomGrowsUptoRow : OpenClaim := { program := "ytiaefbngegmpaaa", sum := "f2210a6ab54dceef6a3e6575ba725a796076bedbb9daefad05aa06007d713e1f", func := "undercroft/undercroftlaw06.GeomGrows", spec := "geomGrows", plainKeys := false, apart := false, narrowed := true }
def GeomGrowsUptoSaid : Prop := geomGrowsUptoRow.holds Try.pinned (OpenSpec.upto geomGrowsSpec)

/-- 'undercroftlaw06.GeomTells', WHERE WHAT IT READS IS OF BULK AT MOST 1048576: true; the input reads as it did. -/
def geomTellsUptoRow : OpenClaim := { program := "ytiaefbngegmpaaa", sum := "f2210a6ab54dceef6a3e6575ba725a796076bedbb9daefad05aa06007d713e1f", func := "undercroft/undercroftlaw06.GeomTells", spec := "geomTells", plainKeys := false, apart := false, narrowed := true }
def GeomTellsUptoSaid : Prop := geomTellsUptoRow.holds Try.pinned (OpenSpec.upto geomTellsSpec)

/-- 'undercroftlaw06.GeomParts', WHERE WHAT IT READS IS OF BULK AT MOST 1048576: true; the input reads as it did. -/
def geomPartsUptoRow : OpenClaim := { program := "ytiaefbngegmpaaa", sum := "f2210a6ab54dceef6a3e6575ba725a796076bedbb9daefad05aa06007d713e1f", func := "undercroft/undercroftlaw06.GeomParts", spec := "geomParts", plainKeys := false, apart := false, narrowed := true }
def GeomPartsUptoSaid : Prop := geomPartsUptoRow.holds Try.pinned (OpenSpec.upto geomPartsSpec)

/-- 'undercroftlaw06.GeomReads', WHERE WHAT IT READS IS OF BULK AT MOST 1048576: true; the input reads as it did. -/
def geomReadsUptoRow : OpenClaim := { program := "ytiaefbngegmpaaa", sum := "f2210a6ab54dceef6a3e6575ba725a796076bedbb9daefad05aa06007d713e1f", func := "undercroft/undercroftlaw06.GeomReads", spec := "geomReads", plainKeys := false, apart := false, narrowed := true }
def GeomReadsUptoSaid : Prop := geomReadsUptoRow.holds Try.pinned (OpenSpec.upto geomReadsSpec)

/-- 'undercroftlaw06.GeomBack', WHERE WHAT IT READS IS OF BULK AT MOST 1048576: true; the input reads as it did. -/
def geomBackUptoRow : OpenClaim := { program := "ytiaefbngegmpaaa", sum := "f2210a6ab54dceef6a3e6575ba725a796076bedbb9daefad05aa06007d713e1f", func := "undercroft/undercroftlaw06.GeomBack", spec := "geomBack", plainKeys := false, apart := false, narrowed := true }
def GeomBackUptoSaid : Prop := geomBackUptoRow.holds Try.pinned (OpenSpec.upto geomBackSpec)

end Rows
end Go.Proofs.Ytiaefbngegmpaaa
