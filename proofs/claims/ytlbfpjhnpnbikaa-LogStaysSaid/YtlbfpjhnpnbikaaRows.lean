/-
  No cell of these rows narrows 'for every input' (looked for: loops, veiled, ifaces, maps, wideKeys, modest, calm, conditions, laid).
  DERIVED. THE GIVEN ROWS OF THIS SEAT. 7 by the template 'for every input the law returns true; each argument reads behind the call as it read before'; 0 by the template 'total and deterministic' (their statements: YtlbfpjhnpnbikaaTotals.lean).
  GIVEN WITH THE SEED: the statements are not yours to turn. If you find one false, say at which input.
  Laid BY PROGRAM, IN A SANDBOX (cutbox-rows.mjs): the forced cells as the released guide's own fill.sh prints them over the translation 7f2a96ecdf8269d4… (all of the seat's roots in one cut). By AI agents, Wed Nov 11 2026. No macro, syntax, notation, axiom, sorry.
-/
import Derived.Test.YtlbfpjhnpnbikaaChecked
import GoSem.Claim
import GoSem.ClaimJoined
import GoSem.ClaimMapViews
import Derived.JoinedTies
import Derived.KernelRfl
namespace Go.Proofs.Ytlbfpjhnpnbikaa
/- THE CELL 'sum', in the pinned program and in every row, IS THE sha256 OF THE DUMP (.gsa) THAT YtlbfpjhnpnbikaaProg.lean LOADS. Nothing in Lean hashes anything: it is a label: what it is worth is what the hold of that sum in a sandbox is worth. -/
noncomputable def Try.pinned : Pinned := { name := "ytlbfpjhnpnbikaa", sum := "7f2a96ecdf8269d4c814e74ecdaecd5ec5d7df1a70fa8f925c322a1c0007ba64", checked := Try.checked }
namespace Rows
def none {H : Type} : Left H := { results := [], args := [] }

/-- 'undercroftlaw04.LogOpens': WHATEVER THE INPUT: true; the input reads as it did. -/
def logOpensSpec : ChangeSpec := { name := "logOpens", fn := fun _ => fun
  | [d1, d2] => { results := [.lit (.bool true)], args := [d1, d2] }
  | _ => none }
def logOpensRow : OpenClaim := { program := "ytlbfpjhnpnbikaa", sum := "7f2a96ecdf8269d4c814e74ecdaecd5ec5d7df1a70fa8f925c322a1c0007ba64", func := "undercroft/undercroftlaw04.LogOpens", spec := "logOpens", apart := false }
def LogOpensSaid : Prop := logOpensRow.holds Try.pinned (OpenSpec.ofChange logOpensSpec)

/-- ITS FALSE NEIGHBOUR: 'it returns false'. Refute it at one input. -/
def logOpensWrong : ChangeSpec := { name := "logOpens", fn := fun _ => fun
  | [d1, d2] => { results := [.lit (.bool false)], args := [d1, d2] }
  | _ => none }
def LogOpensWrongFalsely : Prop := logOpensRow.holds Try.pinned (OpenSpec.ofChange logOpensWrong)

/-- 'undercroftlaw04.LogStays': WHATEVER THE INPUT: true; the input reads as it did. -/
def logStaysSpec : ChangeSpec := { name := "logStays", fn := fun _ => fun
  | [d1, d2] => { results := [.lit (.bool true)], args := [d1, d2] }
  | _ => none }
def logStaysRow : OpenClaim := { program := "ytlbfpjhnpnbikaa", sum := "7f2a96ecdf8269d4c814e74ecdaecd5ec5d7df1a70fa8f925c322a1c0007ba64", func := "undercroft/undercroftlaw04.LogStays", spec := "logStays", apart := false }
def LogStaysSaid : Prop := logStaysRow.holds Try.pinned (OpenSpec.ofChange logStaysSpec)

/-- ITS FALSE NEIGHBOUR: 'it returns false'. Refute it at one input. -/
def logStaysWrong : ChangeSpec := { name := "logStays", fn := fun _ => fun
  | [d1, d2] => { results := [.lit (.bool false)], args := [d1, d2] }
  | _ => none }
def LogStaysWrongFalsely : Prop := logStaysRow.holds Try.pinned (OpenSpec.ofChange logStaysWrong)

/-- 'undercroftlaw04.LogHome': WHATEVER THE INPUT: true; the input reads as it did. -/
def logHomeSpec : ChangeSpec := { name := "logHome", fn := fun _ => fun
  | [d1, d2] => { results := [.lit (.bool true)], args := [d1, d2] }
  | _ => none }
def logHomeRow : OpenClaim := { program := "ytlbfpjhnpnbikaa", sum := "7f2a96ecdf8269d4c814e74ecdaecd5ec5d7df1a70fa8f925c322a1c0007ba64", func := "undercroft/undercroftlaw04.LogHome", spec := "logHome", apart := false }
def LogHomeSaid : Prop := logHomeRow.holds Try.pinned (OpenSpec.ofChange logHomeSpec)

/-- ITS FALSE NEIGHBOUR: 'it returns false'. Refute it at one input. -/
def logHomeWrong : ChangeSpec := { name := "logHome", fn := fun _ => fun
  | [d1, d2] => { results := [.lit (.bool false)], args := [d1, d2] }
  | _ => none }
def LogHomeWrongFalsely : Prop := logHomeRow.holds Try.pinned (OpenSpec.ofChange logHomeWrong)

/-- 'undercroftlaw04.LogRoom': WHATEVER THE INPUT: true; the input reads as it did. -/
def logRoomSpec : ChangeSpec := { name := "logRoom", fn := fun _ => fun
  | [d1, d2] => { results := [.lit (.bool true)], args := [d1, d2] }
  | _ => none }
def logRoomRow : OpenClaim := { program := "ytlbfpjhnpnbikaa", sum := "7f2a96ecdf8269d4c814e74ecdaecd5ec5d7df1a70fa8f925c322a1c0007ba64", func := "undercroft/undercroftlaw04.LogRoom", spec := "logRoom", apart := false }
def LogRoomSaid : Prop := logRoomRow.holds Try.pinned (OpenSpec.ofChange logRoomSpec)

/-- ITS FALSE NEIGHBOUR: 'it returns false'. Refute it at one input. -/
def logRoomWrong : ChangeSpec := { name := "logRoom", fn := fun _ => fun
  | [d1, d2] => { results := [.lit (.bool false)], args := [d1, d2] }
  | _ => none }
def LogRoomWrongFalsely : Prop := logRoomRow.holds Try.pinned (OpenSpec.ofChange logRoomWrong)

/-- 'undercroftlaw04.LogReopens': WHATEVER THE INPUT: true; the input reads as it did. -/
def logReopensSpec : ChangeSpec := { name := "logReopens", fn := fun _ => fun
  | [d1, d2] => { results := [.lit (.bool true)], args := [d1, d2] }
  | _ => none }
def logReopensRow : OpenClaim := { program := "ytlbfpjhnpnbikaa", sum := "7f2a96ecdf8269d4c814e74ecdaecd5ec5d7df1a70fa8f925c322a1c0007ba64", func := "undercroft/undercroftlaw04.LogReopens", spec := "logReopens", apart := false }
def LogReopensSaid : Prop := logReopensRow.holds Try.pinned (OpenSpec.ofChange logReopensSpec)

/-- ITS FALSE NEIGHBOUR: 'it returns false'. Refute it at one input. -/
def logReopensWrong : ChangeSpec := { name := "logReopens", fn := fun _ => fun
  | [d1, d2] => { results := [.lit (.bool false)], args := [d1, d2] }
  | _ => none }
def LogReopensWrongFalsely : Prop := logReopensRow.holds Try.pinned (OpenSpec.ofChange logReopensWrong)

/-- 'undercroftlaw04.LogNone': WHATEVER THE INPUT: true; the input reads as it did. -/
def logNoneSpec : ChangeSpec := { name := "logNone", fn := fun _ => fun
  | [d] => { results := [.lit (.bool true)], args := [d] }
  | _ => none }
def logNoneRow : OpenClaim := { program := "ytlbfpjhnpnbikaa", sum := "7f2a96ecdf8269d4c814e74ecdaecd5ec5d7df1a70fa8f925c322a1c0007ba64", func := "undercroft/undercroftlaw04.LogNone", spec := "logNone", apart := false }
def LogNoneSaid : Prop := logNoneRow.holds Try.pinned (OpenSpec.ofChange logNoneSpec)

/-- ITS FALSE NEIGHBOUR: 'it returns false'. Refute it at one input. -/
def logNoneWrong : ChangeSpec := { name := "logNone", fn := fun _ => fun
  | [d] => { results := [.lit (.bool false)], args := [d] }
  | _ => none }
def LogNoneWrongFalsely : Prop := logNoneRow.holds Try.pinned (OpenSpec.ofChange logNoneWrong)

/-- 'undercroftlaw04.LogRuns': WHATEVER THE INPUT: true; the input reads as it did. -/
def logRunsSpec : ChangeSpec := { name := "logRuns", fn := fun _ => fun
  | [d1, d2] => { results := [.lit (.bool true)], args := [d1, d2] }
  | _ => none }
def logRunsRow : OpenClaim := { program := "ytlbfpjhnpnbikaa", sum := "7f2a96ecdf8269d4c814e74ecdaecd5ec5d7df1a70fa8f925c322a1c0007ba64", func := "undercroft/undercroftlaw04.LogRuns", spec := "logRuns", apart := false }
def LogRunsSaid : Prop := logRunsRow.holds Try.pinned (OpenSpec.ofChange logRunsSpec)

/-- ITS FALSE NEIGHBOUR: 'it returns false'. Refute it at one input. -/
def logRunsWrong : ChangeSpec := { name := "logRuns", fn := fun _ => fun
  | [d1, d2] => { results := [.lit (.bool false)], args := [d1, d2] }
  | _ => none }
def LogRunsWrongFalsely : Prop := logRunsRow.holds Try.pinned (OpenSpec.ofChange logRunsWrong)

/- THE SECOND FORM. 'bulk': how many values and letters a reading holds, each counted each time it is reached (what is shared counts as often as it is met; a slice's spare places count too). A statement '..UptoSaid' is the law's where the arguments, and the package variables that the reading takes, are together of bulk at most 1048576: NARROWER than '..Said'. Prove '..Said' where nothing that the law and all that it calls make is longer than what came in: it says more and counts as full. Else prove '..UptoSaid'. A law counts once. -/
mutual
def uptoBulk {H : Type} : DataW H → Nat
  | .lit (.string bytes) => bytes.length + 1
  | .lit _ => 1
  | .nil => 1
  | .ptr d => uptoBulk d + 1
  | .slice elems spare => uptoBulkAll elems + uptoBulkAll spare + 1
  | .agg parts => uptoBulkAll parts + 1
  | .iface _ d => uptoBulk d + 1
  | .map entries => uptoBulkEntries entries + 1
  | .held _ => 1
def uptoBulkAll {H : Type} : List (DataW H) → Nat
  | [] => 0
  | d :: r => uptoBulk d + uptoBulkAll r
def uptoBulkEntries {H : Type} : List (Lit × DataW H) → Nat
  | [] => 0
  | x :: r => uptoBulkEntry x + uptoBulkEntries r
def uptoBulkEntry {H : Type} : Lit × DataW H → Nat
  | (.string bytes, d) => bytes.length + uptoBulk d + 1
  | (_, d) => uptoBulk d + 1
 end
def uptoSmall : (H : Type) → List (DataW H) → Bool := fun _ ds => decide (uptoBulkAll ds ≤ 1048576)
def OpenSpec.upto (s : _root_.Go.ChangeSpec) : _root_.Go.OpenSpec := { _root_.Go.OpenSpec.ofChange s with cond := some uptoSmall }

/-- 'undercroftlaw04.LogOpens', WHERE WHAT IT READS IS OF BULK AT MOST 1048576: true; the input reads as it did. -/
def logOpensUptoRow : OpenClaim := { program := "ytlbfpjhnpnbikaa", sum := "7f2a96ecdf8269d4c814e74ecdaecd5ec5d7df1a70fa8f925c322a1c0007ba64", func := "undercroft/undercroftlaw04.LogOpens", spec := "logOpens", apart := false, narrowed := true }
def LogOpensUptoSaid : Prop := logOpensUptoRow.holds Try.pinned (OpenSpec.upto logOpensSpec)

/-- 'undercroftlaw04.LogStays', WHERE WHAT IT READS IS OF BULK AT MOST 1048576: true; the input reads as it did. -/
def logStaysUptoRow : OpenClaim := { program := "ytlbfpjhnpnbikaa", sum := "7f2a96ecdf8269d4c814e74ecdaecd5ec5d7df1a70fa8f925c322a1c0007ba64", func := "undercroft/undercroftlaw04.LogStays", spec := "logStays", apart := false, narrowed := true }
def LogStaysUptoSaid : Prop := logStaysUptoRow.holds Try.pinned (OpenSpec.upto logStaysSpec)

/-- 'undercroftlaw04.LogHome', WHERE WHAT IT READS IS OF BULK AT MOST 1048576: true; the input reads as it did. -/
def logHomeUptoRow : OpenClaim := { program := "ytlbfpjhnpnbikaa", sum := "7f2a96ecdf8269d4c814e74ecdaecd5ec5d7df1a70fa8f925c322a1c0007ba64", func := "undercroft/undercroftlaw04.LogHome", spec := "logHome", apart := false, narrowed := true }
def LogHomeUptoSaid : Prop := logHomeUptoRow.holds Try.pinned (OpenSpec.upto logHomeSpec)

/-- 'undercroftlaw04.LogRoom', WHERE WHAT IT READS IS OF BULK AT MOST 1048576: true; the input reads as it did. -/
def logRoomUptoRow : OpenClaim := { program := "ytlbfpjhnpnbikaa", sum := "7f2a96ecdf8269d4c814e74ecdaecd5ec5d7df1a70fa8f925c322a1c0007ba64", func := "undercroft/undercroftlaw04.LogRoom", spec := "logRoom", apart := false, narrowed := true }
def LogRoomUptoSaid : Prop := logRoomUptoRow.holds Try.pinned (OpenSpec.upto logRoomSpec)

/-- 'undercroftlaw04.LogReopens', WHERE WHAT IT READS IS OF BULK AT MOST 1048576: true; the input reads as it did. -/
def logReopensUptoRow : OpenClaim := { program := "ytlbfpjhnpnbikaa", sum := "7f2a96ecdf8269d4c814e74ecdaecd5ec5d7df1a70fa8f925c322a1c0007ba64", func := "undercroft/undercroftlaw04.LogReopens", spec := "logReopens", apart := false, narrowed := true }
def LogReopensUptoSaid : Prop := logReopensUptoRow.holds Try.pinned (OpenSpec.upto logReopensSpec)

/-- 'undercroftlaw04.LogNone', WHERE WHAT IT READS IS OF BULK AT MOST 1048576: true; the input reads as it did. -/
def logNoneUptoRow : OpenClaim := { program := "ytlbfpjhnpnbikaa", sum := "7f2a96ecdf8269d4c814e74ecdaecd5ec5d7df1a70fa8f925c322a1c0007ba64", func := "undercroft/undercroftlaw04.LogNone", spec := "logNone", apart := false, narrowed := true }
def LogNoneUptoSaid : Prop := logNoneUptoRow.holds Try.pinned (OpenSpec.upto logNoneSpec)

/-- 'undercroftlaw04.LogRuns', WHERE WHAT IT READS IS OF BULK AT MOST 1048576: true; the input reads as it did. -/
def logRunsUptoRow : OpenClaim := { program := "ytlbfpjhnpnbikaa", sum := "7f2a96ecdf8269d4c814e74ecdaecd5ec5d7df1a70fa8f925c322a1c0007ba64", func := "undercroft/undercroftlaw04.LogRuns", spec := "logRuns", apart := false, narrowed := true }
def LogRunsUptoSaid : Prop := logRunsUptoRow.holds Try.pinned (OpenSpec.upto logRunsSpec)

end Rows
end Go.Proofs.Ytlbfpjhnpnbikaa
