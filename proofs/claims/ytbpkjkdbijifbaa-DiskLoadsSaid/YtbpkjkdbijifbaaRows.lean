/-
  No cell of these rows narrows 'for every input' (looked for: loops, veiled, ifaces, maps, wideKeys, modest, calm, conditions, laid).
  DERIVED. THE GIVEN ROWS OF THIS SEAT. 8 by the template 'for every input the law returns true; each argument reads behind the call as it read before'; 0 by the template 'total and deterministic' (their statements: YtbpkjkdbijifbaaTotals.lean).
  GIVEN WITH THE SEED: the statements are not yours to turn. If you find one false, say at which input.
  Laid BY PROGRAM, IN A SANDBOX (cutbox-rows.mjs): the forced cells as the released guide's own fill.sh prints them over the translation 1be1e598b920cc6f… (all of the seat's roots in one cut). By AI agents, Wed Nov 11 2026. No macro, syntax, notation, axiom, sorry.
-/
import Derived.Test.YtbpkjkdbijifbaaChecked
import GoSem.Claim
import GoSem.ClaimJoined
import GoSem.ClaimMapViews
import Derived.JoinedTies
import Derived.KernelRfl
namespace Go.Proofs.Ytbpkjkdbijifbaa
/- THE CELL 'sum', in the pinned program and in every row, IS THE sha256 OF THE DUMP (.gsa) THAT YtbpkjkdbijifbaaProg.lean LOADS. Nothing in Lean hashes anything: it is a label: what it is worth is what the hold of that sum in a sandbox is worth. -/
noncomputable def Try.pinned : Pinned := { name := "ytbpkjkdbijifbaa", sum := "1be1e598b920cc6fd4323b9fb8074715f79325014e7e6bd3b44934e7a8b658bb", checked := Try.checked }
namespace Rows
def none {H : Type} : Left H := { results := [], args := [] }

/-- 'undercroftlaw02.DiskTears': WHATEVER THE INPUT: true; the input reads as it did. -/
def diskTearsSpec : ChangeSpec := { name := "diskTears", fn := fun _ => fun
  | [d1, d2, d3] => { results := [.lit (.bool true)], args := [d1, d2, d3] }
  | _ => none }
def diskTearsRow : OpenClaim := { program := "ytbpkjkdbijifbaa", sum := "1be1e598b920cc6fd4323b9fb8074715f79325014e7e6bd3b44934e7a8b658bb", func := "undercroft/undercroftlaw02.DiskTears", spec := "diskTears", apart := false }
def DiskTearsSaid : Prop := diskTearsRow.holds Try.pinned (OpenSpec.ofChange diskTearsSpec)

/-- ITS FALSE NEIGHBOUR: 'it returns false'. Refute it at one input. -/
def diskTearsWrong : ChangeSpec := { name := "diskTears", fn := fun _ => fun
  | [d1, d2, d3] => { results := [.lit (.bool false)], args := [d1, d2, d3] }
  | _ => none }
def DiskTearsWrongFalsely : Prop := diskTearsRow.holds Try.pinned (OpenSpec.ofChange diskTearsWrong)

/-- 'undercroftlaw02.DiskLoads': WHATEVER THE INPUT: true; the input reads as it did. -/
def diskLoadsSpec : ChangeSpec := { name := "diskLoads", fn := fun _ => fun
  | [d1, d2] => { results := [.lit (.bool true)], args := [d1, d2] }
  | _ => none }
def diskLoadsRow : OpenClaim := { program := "ytbpkjkdbijifbaa", sum := "1be1e598b920cc6fd4323b9fb8074715f79325014e7e6bd3b44934e7a8b658bb", func := "undercroft/undercroftlaw02.DiskLoads", spec := "diskLoads", apart := false }
def DiskLoadsSaid : Prop := diskLoadsRow.holds Try.pinned (OpenSpec.ofChange diskLoadsSpec)

/-- ITS FALSE NEIGHBOUR: 'it returns false'. Refute it at one input. -/
def diskLoadsWrong : ChangeSpec := { name := "diskLoads", fn := fun _ => fun
  | [d1, d2] => { results := [.lit (.bool false)], args := [d1, d2] }
  | _ => none }
def DiskLoadsWrongFalsely : Prop := diskLoadsRow.holds Try.pinned (OpenSpec.ofChange diskLoadsWrong)

/-- 'undercroftlaw02.DiskBeside': WHATEVER THE INPUT: true; the input reads as it did. -/
def diskBesideSpec : ChangeSpec := { name := "diskBeside", fn := fun _ => fun
  | [d1, d2] => { results := [.lit (.bool true)], args := [d1, d2] }
  | _ => none }
def diskBesideRow : OpenClaim := { program := "ytbpkjkdbijifbaa", sum := "1be1e598b920cc6fd4323b9fb8074715f79325014e7e6bd3b44934e7a8b658bb", func := "undercroft/undercroftlaw02.DiskBeside", spec := "diskBeside", apart := false }
def DiskBesideSaid : Prop := diskBesideRow.holds Try.pinned (OpenSpec.ofChange diskBesideSpec)

/-- ITS FALSE NEIGHBOUR: 'it returns false'. Refute it at one input. -/
def diskBesideWrong : ChangeSpec := { name := "diskBeside", fn := fun _ => fun
  | [d1, d2] => { results := [.lit (.bool false)], args := [d1, d2] }
  | _ => none }
def DiskBesideWrongFalsely : Prop := diskBesideRow.holds Try.pinned (OpenSpec.ofChange diskBesideWrong)

/-- 'undercroftlaw02.DiskFuse': WHATEVER THE INPUT: true; the input reads as it did. -/
def diskFuseSpec : ChangeSpec := { name := "diskFuse", fn := fun _ => fun
  | [d1, d2, d3] => { results := [.lit (.bool true)], args := [d1, d2, d3] }
  | _ => none }
def diskFuseRow : OpenClaim := { program := "ytbpkjkdbijifbaa", sum := "1be1e598b920cc6fd4323b9fb8074715f79325014e7e6bd3b44934e7a8b658bb", func := "undercroft/undercroftlaw02.DiskFuse", spec := "diskFuse", apart := false }
def DiskFuseSaid : Prop := diskFuseRow.holds Try.pinned (OpenSpec.ofChange diskFuseSpec)

/-- ITS FALSE NEIGHBOUR: 'it returns false'. Refute it at one input. -/
def diskFuseWrong : ChangeSpec := { name := "diskFuse", fn := fun _ => fun
  | [d1, d2, d3] => { results := [.lit (.bool false)], args := [d1, d2, d3] }
  | _ => none }
def DiskFuseWrongFalsely : Prop := diskFuseRow.holds Try.pinned (OpenSpec.ofChange diskFuseWrong)

/-- 'undercroftlaw02.DiskKeeps': WHATEVER THE INPUT: true; the input reads as it did. -/
def diskKeepsSpec : ChangeSpec := { name := "diskKeeps", fn := fun _ => fun
  | [d1, d2, d3] => { results := [.lit (.bool true)], args := [d1, d2, d3] }
  | _ => none }
def diskKeepsRow : OpenClaim := { program := "ytbpkjkdbijifbaa", sum := "1be1e598b920cc6fd4323b9fb8074715f79325014e7e6bd3b44934e7a8b658bb", func := "undercroft/undercroftlaw02.DiskKeeps", spec := "diskKeeps", apart := false }
def DiskKeepsSaid : Prop := diskKeepsRow.holds Try.pinned (OpenSpec.ofChange diskKeepsSpec)

/-- ITS FALSE NEIGHBOUR: 'it returns false'. Refute it at one input. -/
def diskKeepsWrong : ChangeSpec := { name := "diskKeeps", fn := fun _ => fun
  | [d1, d2, d3] => { results := [.lit (.bool false)], args := [d1, d2, d3] }
  | _ => none }
def DiskKeepsWrongFalsely : Prop := diskKeepsRow.holds Try.pinned (OpenSpec.ofChange diskKeepsWrong)

/-- 'undercroftlaw02.DiskRuns': WHATEVER THE INPUT: true; the input reads as it did. -/
def diskRunsSpec : ChangeSpec := { name := "diskRuns", fn := fun _ => fun
  | [d1, d2] => { results := [.lit (.bool true)], args := [d1, d2] }
  | _ => none }
def diskRunsRow : OpenClaim := { program := "ytbpkjkdbijifbaa", sum := "1be1e598b920cc6fd4323b9fb8074715f79325014e7e6bd3b44934e7a8b658bb", func := "undercroft/undercroftlaw02.DiskRuns", spec := "diskRuns", inPlace := ["maps.clone"], apart := false }
def DiskRunsSaid : Prop := diskRunsRow.holds Try.pinned (OpenSpec.ofChange diskRunsSpec)

/-- ITS FALSE NEIGHBOUR: 'it returns false'. Refute it at one input. -/
def diskRunsWrong : ChangeSpec := { name := "diskRuns", fn := fun _ => fun
  | [d1, d2] => { results := [.lit (.bool false)], args := [d1, d2] }
  | _ => none }
def DiskRunsWrongFalsely : Prop := diskRunsRow.holds Try.pinned (OpenSpec.ofChange diskRunsWrong)

/-- 'undercroftlaw02.DiskNone': WHATEVER THE INPUT: true; the input reads as it did. -/
def diskNoneSpec : ChangeSpec := { name := "diskNone", fn := fun _ => fun
  | [d] => { results := [.lit (.bool true)], args := [d] }
  | _ => none }
def diskNoneRow : OpenClaim := { program := "ytbpkjkdbijifbaa", sum := "1be1e598b920cc6fd4323b9fb8074715f79325014e7e6bd3b44934e7a8b658bb", func := "undercroft/undercroftlaw02.DiskNone", spec := "diskNone", inPlace := ["maps.clone"], apart := false }
def DiskNoneSaid : Prop := diskNoneRow.holds Try.pinned (OpenSpec.ofChange diskNoneSpec)

/-- ITS FALSE NEIGHBOUR: 'it returns false'. Refute it at one input. -/
def diskNoneWrong : ChangeSpec := { name := "diskNone", fn := fun _ => fun
  | [d] => { results := [.lit (.bool false)], args := [d] }
  | _ => none }
def DiskNoneWrongFalsely : Prop := diskNoneRow.holds Try.pinned (OpenSpec.ofChange diskNoneWrong)

/-- 'undercroftlaw02.DiskTwins': WHATEVER THE INPUT: true; the input reads as it did. -/
def diskTwinsSpec : ChangeSpec := { name := "diskTwins", fn := fun _ => fun
  | [d1, d2] => { results := [.lit (.bool true)], args := [d1, d2] }
  | _ => none }
def diskTwinsRow : OpenClaim := { program := "ytbpkjkdbijifbaa", sum := "1be1e598b920cc6fd4323b9fb8074715f79325014e7e6bd3b44934e7a8b658bb", func := "undercroft/undercroftlaw02.DiskTwins", spec := "diskTwins", inPlace := ["maps.clone"], apart := false }
def DiskTwinsSaid : Prop := diskTwinsRow.holds Try.pinned (OpenSpec.ofChange diskTwinsSpec)

/-- ITS FALSE NEIGHBOUR: 'it returns false'. Refute it at one input. -/
def diskTwinsWrong : ChangeSpec := { name := "diskTwins", fn := fun _ => fun
  | [d1, d2] => { results := [.lit (.bool false)], args := [d1, d2] }
  | _ => none }
def DiskTwinsWrongFalsely : Prop := diskTwinsRow.holds Try.pinned (OpenSpec.ofChange diskTwinsWrong)

/- THE SECOND FORM. 'bulk': how many values and letters a reading holds, each counted each time it is reached (what is shared counts as often as it is met; a slice's spare places count too). A statement '..UptoSaid' is the law's where the arguments, and the package variables that the reading takes, are together of bulk at most 1048576: NARROWER than '..Said'. Prove '..Said' where nothing that the law and all that it calls make is longer than what came in: it says more and counts as full. Else prove '..UptoSaid'. A law counts once. -/
mutual
def uptoBulk {H : Type} : DataW H → Nat
  | .lit (.string bytes) => bytes.length + 1
  | .lit _ => 1
  | .nil => 1
  | .ptr d => uptoBulk d + 1
  | .slice elems spare => uptoBulkAll elems + uptoBulkAll spare + 1
  | .agg parts => uptoBulkAll parts + 1
  | .iface _ d => uptoBulk d + 1
  | .map entries => uptoBulkEntries entries + 1
  | .held _ => 1
def uptoBulkAll {H : Type} : List (DataW H) → Nat
  | [] => 0
  | d :: r => uptoBulk d + uptoBulkAll r
def uptoBulkEntries {H : Type} : List (Lit × DataW H) → Nat
  | [] => 0
  | x :: r => uptoBulkEntry x + uptoBulkEntries r
def uptoBulkEntry {H : Type} : Lit × DataW H → Nat
  | (.string bytes, d) => bytes.length + uptoBulk d + 1
  | (_, d) => uptoBulk d + 1
 end
def uptoSmall : (H : Type) → List (DataW H) → Bool := fun _ ds => decide (uptoBulkAll ds ≤ 1048576)
def OpenSpec.upto (s : _root_.Go.ChangeSpec) : _root_.Go.OpenSpec := { _root_.Go.OpenSpec.ofChange s with cond := some uptoSmall }

/-- 'undercroftlaw02.DiskTears', WHERE WHAT IT READS IS OF BULK AT MOST 1048576: true; the input reads as it did. -/
def diskTearsUptoRow : OpenClaim := { program := "ytbpkjkdbijifbaa", sum := "1be1e598b920cc6fd4323b9fb8074715f79325014e7e6bd3b44934e7a8b658bb", func := "undercroft/undercroftlaw02.DiskTears", spec := "diskTears", apart := false, narrowed := true }
def DiskTearsUptoSaid : Prop := diskTearsUptoRow.holds Try.pinned (OpenSpec.upto diskTearsSpec)

/-- 'undercroftlaw02.DiskLoads', WHERE WHAT IT READS IS OF BULK AT MOST 1048576: true; the input reads as it did. -/
def diskLoadsUptoRow : OpenClaim := { program := "ytbpkjkdbijifbaa", sum := "1be1e598b920cc6fd4323b9fb8074715f79325014e7e6bd3b44934e7a8b658bb", func := "undercroft/undercroftlaw02.DiskLoads", spec := "diskLoads", apart := false, narrowed := true }
def DiskLoadsUptoSaid : Prop := diskLoadsUptoRow.holds Try.pinned (OpenSpec.upto diskLoadsSpec)

/-- 'undercroftlaw02.DiskBeside', WHERE WHAT IT READS IS OF BULK AT MOST 1048576: true; the input reads as it did. -/
def diskBesideUptoRow : OpenClaim := { program := "ytbpkjkdbijifbaa", sum := "1be1e598b920cc6fd4323b9fb8074715f79325014e7e6bd3b44934e7a8b658bb", func := "undercroft/undercroftlaw02.DiskBeside", spec := "diskBeside", apart := false, narrowed := true }
def DiskBesideUptoSaid : Prop := diskBesideUptoRow.holds Try.pinned (OpenSpec.upto diskBesideSpec)

/-- 'undercroftlaw02.DiskFuse', WHERE WHAT IT READS IS OF BULK AT MOST 1048576: true; the input reads as it did. -/
def diskFuseUptoRow : OpenClaim := { program := "ytbpkjkdbijifbaa", sum := "1be1e598b920cc6fd4323b9fb8074715f79325014e7e6bd3b44934e7a8b658bb", func := "undercroft/undercroftlaw02.DiskFuse", spec := "diskFuse", apart := false, narrowed := true }
def DiskFuseUptoSaid : Prop := diskFuseUptoRow.holds Try.pinned (OpenSpec.upto diskFuseSpec)

/-- 'undercroftlaw02.DiskKeeps', WHERE WHAT IT READS IS OF BULK AT MOST 1048576: true; the input reads as it did. -/
def diskKeepsUptoRow : OpenClaim := { program := "ytbpkjkdbijifbaa", sum := "1be1e598b920cc6fd4323b9fb8074715f79325014e7e6bd3b44934e7a8b658bb", func := "undercroft/undercroftlaw02.DiskKeeps", spec := "diskKeeps", apart := false, narrowed := true }
def DiskKeepsUptoSaid : Prop := diskKeepsUptoRow.holds Try.pinned (OpenSpec.upto diskKeepsSpec)

/-- 'undercroftlaw02.DiskRuns', WHERE WHAT IT READS IS OF BULK AT MOST 1048576: true; the input reads as it did. -/
def diskRunsUptoRow : OpenClaim := { program := "ytbpkjkdbijifbaa", sum := "1be1e598b920cc6fd4323b9fb8074715f79325014e7e6bd3b44934e7a8b658bb", func := "undercroft/undercroftlaw02.DiskRuns", spec := "diskRuns", inPlace := ["maps.clone"], apart := false, narrowed := true }
def DiskRunsUptoSaid : Prop := diskRunsUptoRow.holds Try.pinned (OpenSpec.upto diskRunsSpec)

/-- 'undercroftlaw02.DiskNone', WHERE WHAT IT READS IS OF BULK AT MOST 1048576: true; the input reads as it did. -/
def diskNoneUptoRow : OpenClaim := { program := "ytbpkjkdbijifbaa", sum := "1be1e598b920cc6fd4323b9fb8074715f79325014e7e6bd3b44934e7a8b658bb", func := "undercroft/undercroftlaw02.DiskNone", spec := "diskNone", inPlace := ["maps.clone"], apart := false, narrowed := true }
def DiskNoneUptoSaid : Prop := diskNoneUptoRow.holds Try.pinned (OpenSpec.upto diskNoneSpec)

/-- 'undercroftlaw02.DiskTwins', WHERE WHAT IT READS IS OF BULK AT MOST 1048576: true; the input reads as it did. -/
def diskTwinsUptoRow : OpenClaim := { program := "ytbpkjkdbijifbaa", sum := "1be1e598b920cc6fd4323b9fb8074715f79325014e7e6bd3b44934e7a8b658bb", func := "undercroft/undercroftlaw02.DiskTwins", spec := "diskTwins", inPlace := ["maps.clone"], apart := false, narrowed := true }
def DiskTwinsUptoSaid : Prop := diskTwinsUptoRow.holds Try.pinned (OpenSpec.upto diskTwinsSpec)

end Rows
end Go.Proofs.Ytbpkjkdbijifbaa
