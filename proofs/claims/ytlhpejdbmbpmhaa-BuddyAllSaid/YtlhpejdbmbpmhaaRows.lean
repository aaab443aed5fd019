/-
  No cell of these rows narrows 'for every input' (looked for: loops, veiled, ifaces, maps, wideKeys, modest, calm, conditions, laid).
  DERIVED. THE GIVEN ROWS OF THIS SEAT. 7 by the template 'for every input the law returns true; each argument reads behind the call as it read before'; 0 by the template 'total and deterministic' (their statements: YtlhpejdbmbpmhaaTotals.lean).
  GIVEN WITH THE SEED: the statements are not yours to turn. If you find one false, say at which input.
  Laid BY PROGRAM, IN A SANDBOX (cutbox-rows.mjs): the forced cells as the released guide's own fill.sh prints them over the translation 4c379f01b48d537d… (all of the seat's roots in one cut). By AI agents, Wed Nov 11 2026. No macro, syntax, notation, axiom, sorry.
-/
import Derived.Test.YtlhpejdbmbpmhaaChecked
import GoSem.Claim
import GoSem.ClaimJoined
import GoSem.ClaimMapViews
import Derived.JoinedTies
import Derived.KernelRfl
namespace Go.Proofs.Ytlhpejdbmbpmhaa
/- THE CELL 'sum', in the pinned program and in every row, IS THE sha256 OF THE DUMP (.gsa) THAT YtlhpejdbmbpmhaaProg.lean LOADS. Nothing in Lean hashes anything: it is a label: what it is worth is what the hold of that sum in a sandbox is worth. -/
noncomputable def Try.pinned : Pinned := { name := "ytlhpejdbmbpmhaa", sum := "4c379f01b48d537dd375dc194bff2b115f89c069500ef5bf2c419bc2c4e70523", checked := Try.checked }
namespace Rows
def none {H : Type} : Left H := { results := [], args := [] }

/-- 'undercroftlaw08.BuddyTakes': WHATEVER THE INPUT: true; the input reads as it did. -/
def buddyTakesSpec : ChangeSpec := { name := "buddyTakes", fn := fun _ => fun
  | [d1, d2] => { results := [.lit (.bool true)], args := [d1, d2] }
  | _ => none }
def buddyTakesRow : OpenClaim := { program := "ytlhpejdbmbpmhaa", sum := "4c379f01b48d537dd375dc194bff2b115f89c069500ef5bf2c419bc2c4e70523", func := "undercroft/undercroftlaw08.BuddyTakes", spec := "buddyTakes", unfollowed := true, recurses := true, apart := false }
def BuddyTakesSaid : Prop := buddyTakesRow.holds Try.pinned (OpenSpec.ofChange buddyTakesSpec)

/-- ITS FALSE NEIGHBOUR: 'it returns false'. Refute it at one input. -/
def buddyTakesWrong : ChangeSpec := { name := "buddyTakes", fn := fun _ => fun
  | [d1, d2] => { results := [.lit (.bool false)], args := [d1, d2] }
  | _ => none }
def BuddyTakesWrongFalsely : Prop := buddyTakesRow.holds Try.pinned (OpenSpec.ofChange buddyTakesWrong)

/-- 'undercroftlaw08.BuddyBest': WHATEVER THE INPUT: true; the input reads as it did. -/
def buddyBestSpec : ChangeSpec := { name := "buddyBest", fn := fun _ => fun
  | [d1, d2] => { results := [.lit (.bool true)], args := [d1, d2] }
  | _ => none }
def buddyBestRow : OpenClaim := { program := "ytlhpejdbmbpmhaa", sum := "4c379f01b48d537dd375dc194bff2b115f89c069500ef5bf2c419bc2c4e70523", func := "undercroft/undercroftlaw08.BuddyBest", spec := "buddyBest", unfollowed := true, recurses := true, apart := false }
def BuddyBestSaid : Prop := buddyBestRow.holds Try.pinned (OpenSpec.ofChange buddyBestSpec)

/-- ITS FALSE NEIGHBOUR: 'it returns false'. Refute it at one input. -/
def buddyBestWrong : ChangeSpec := { name := "buddyBest", fn := fun _ => fun
  | [d1, d2] => { results := [.lit (.bool false)], args := [d1, d2] }
  | _ => none }
def BuddyBestWrongFalsely : Prop := buddyBestRow.holds Try.pinned (OpenSpec.ofChange buddyBestWrong)

/-- 'undercroftlaw08.BuddyOrders': WHATEVER THE INPUT: true; the input reads as it did. -/
def buddyOrdersSpec : ChangeSpec := { name := "buddyOrders", fn := fun _ => fun
  | [d1, d2] => { results := [.lit (.bool true)], args := [d1, d2] }
  | _ => none }
def buddyOrdersRow : OpenClaim := { program := "ytlhpejdbmbpmhaa", sum := "4c379f01b48d537dd375dc194bff2b115f89c069500ef5bf2c419bc2c4e70523", func := "undercroft/undercroftlaw08.BuddyOrders", spec := "buddyOrders", unfollowed := true, recurses := true, apart := false }
def BuddyOrdersSaid : Prop := buddyOrdersRow.holds Try.pinned (OpenSpec.ofChange buddyOrdersSpec)

/-- ITS FALSE NEIGHBOUR: 'it returns false'. Refute it at one input. -/
def buddyOrdersWrong : ChangeSpec := { name := "buddyOrders", fn := fun _ => fun
  | [d1, d2] => { results := [.lit (.bool false)], args := [d1, d2] }
  | _ => none }
def BuddyOrdersWrongFalsely : Prop := buddyOrdersRow.holds Try.pinned (OpenSpec.ofChange buddyOrdersWrong)

/-- 'undercroftlaw08.BuddyGives': WHATEVER THE INPUT: true; the input reads as it did. -/
def buddyGivesSpec : ChangeSpec := { name := "buddyGives", fn := fun _ => fun
  | [d1, d2, d3] => { results := [.lit (.bool true)], args := [d1, d2, d3] }
  | _ => none }
def buddyGivesRow : OpenClaim := { program := "ytlhpejdbmbpmhaa", sum := "4c379f01b48d537dd375dc194bff2b115f89c069500ef5bf2c419bc2c4e70523", func := "undercroft/undercroftlaw08.BuddyGives", spec := "buddyGives", unfollowed := true, recurses := true, apart := false }
def BuddyGivesSaid : Prop := buddyGivesRow.holds Try.pinned (OpenSpec.ofChange buddyGivesSpec)

/-- ITS FALSE NEIGHBOUR: 'it returns false'. Refute it at one input. -/
def buddyGivesWrong : ChangeSpec := { name := "buddyGives", fn := fun _ => fun
  | [d1, d2, d3] => { results := [.lit (.bool false)], args := [d1, d2, d3] }
  | _ => none }
def BuddyGivesWrongFalsely : Prop := buddyGivesRow.holds Try.pinned (OpenSpec.ofChange buddyGivesWrong)

/-- 'undercroftlaw08.BuddyAll': WHATEVER THE INPUT: true; the input reads as it did. -/
def buddyAllSpec : ChangeSpec := { name := "buddyAll", fn := fun _ => fun
  | [d1, d2] => { results := [.lit (.bool true)], args := [d1, d2] }
  | _ => none }
def buddyAllRow : OpenClaim := { program := "ytlhpejdbmbpmhaa", sum := "4c379f01b48d537dd375dc194bff2b115f89c069500ef5bf2c419bc2c4e70523", func := "undercroft/undercroftlaw08.BuddyAll", spec := "buddyAll", unfollowed := true, recurses := true, apart := false }
def BuddyAllSaid : Prop := buddyAllRow.holds Try.pinned (OpenSpec.ofChange buddyAllSpec)

/-- ITS FALSE NEIGHBOUR: 'it returns false'. Refute it at one input. -/
def buddyAllWrong : ChangeSpec := { name := "buddyAll", fn := fun _ => fun
  | [d1, d2] => { results := [.lit (.bool false)], args := [d1, d2] }
  | _ => none }
def BuddyAllWrongFalsely : Prop := buddyAllRow.holds Try.pinned (OpenSpec.ofChange buddyAllWrong)

/-- 'undercroftlaw08.BuddyFree': WHATEVER THE INPUT: true; the input reads as it did. -/
def buddyFreeSpec : ChangeSpec := { name := "buddyFree", fn := fun _ => fun
  | [d1, d2] => { results := [.lit (.bool true)], args := [d1, d2] }
  | _ => none }
def buddyFreeRow : OpenClaim := { program := "ytlhpejdbmbpmhaa", sum := "4c379f01b48d537dd375dc194bff2b115f89c069500ef5bf2c419bc2c4e70523", func := "undercroft/undercroftlaw08.BuddyFree", spec := "buddyFree", unfollowed := true, recurses := true, apart := false }
def BuddyFreeSaid : Prop := buddyFreeRow.holds Try.pinned (OpenSpec.ofChange buddyFreeSpec)

/-- ITS FALSE NEIGHBOUR: 'it returns false'. Refute it at one input. -/
def buddyFreeWrong : ChangeSpec := { name := "buddyFree", fn := fun _ => fun
  | [d1, d2] => { results := [.lit (.bool false)], args := [d1, d2] }
  | _ => none }
def BuddyFreeWrongFalsely : Prop := buddyFreeRow.holds Try.pinned (OpenSpec.ofChange buddyFreeWrong)

/-- 'undercroftlaw08.BuddyTwice': WHATEVER THE INPUT: true; the input reads as it did. -/
def buddyTwiceSpec : ChangeSpec := { name := "buddyTwice", fn := fun _ => fun
  | [d1, d2, d3] => { results := [.lit (.bool true)], args := [d1, d2, d3] }
  | _ => none }
def buddyTwiceRow : OpenClaim := { program := "ytlhpejdbmbpmhaa", sum := "4c379f01b48d537dd375dc194bff2b115f89c069500ef5bf2c419bc2c4e70523", func := "undercroft/undercroftlaw08.BuddyTwice", spec := "buddyTwice", unfollowed := true, recurses := true, apart := false }
def BuddyTwiceSaid : Prop := buddyTwiceRow.holds Try.pinned (OpenSpec.ofChange buddyTwiceSpec)

/-- ITS FALSE NEIGHBOUR: 'it returns false'. Refute it at one input. -/
def buddyTwiceWrong : ChangeSpec := { name := "buddyTwice", fn := fun _ => fun
  | [d1, d2, d3] => { results := [.lit (.bool false)], args := [d1, d2, d3] }
  | _ => none }
def BuddyTwiceWrongFalsely : Prop := buddyTwiceRow.holds Try.pinned (OpenSpec.ofChange buddyTwiceWrong)

/- THE SECOND FORM. 'bulk': how many values and letters a reading holds, each counted each time it is reached (what is shared counts as often as it is met; a slice's spare places count too). A statement '..UptoSaid' is the law's where the arguments, and the package variables that the reading takes, are together of bulk at most 1048576: NARROWER than '..Said'. Prove '..Said' where nothing that the law and all that it calls make is longer than what came in: it says more and counts as full. Else prove '..UptoSaid'. A law counts once. -/
mutual
def uptoBulk {H : Type} : DataW H → Nat
  | .lit (.string bytes) => bytes.length + 1
  | .lit _ => 1
  | .nil => 1
  | .ptr d => uptoBulk d + 1
  | .slice elems spare => uptoBulkAll elems + uptoBulkAll spare + 1
  | .agg parts => uptoBulkAll parts + 1
  | .iface _ d => uptoBulk d + 1
  | .map entries => uptoBulkEntries entries + 1
  | .held _ => 1
def uptoBulkAll {H : Type} : List (DataW H) → Nat
  | [] => 0
  | d :: r => uptoBulk d + uptoBulkAll r
def uptoBulkEntries {H : Type} : List (Lit × DataW H) → Nat
  | [] => 0
  | x :: r => uptoBulkEntry x + uptoBulkEntries r
def uptoBulkEntry {H : Type} : Lit × DataW H → Nat
  | (.string bytes, d) => bytes.length + uptoBulk d + 1
  | (_, d) => uptoBulk d + 1
 end
def uptoSmall : (H : Type) → List (DataW H) → Bool := fun _ ds => decide (uptoBulkAll ds ≤ 1048576)
def OpenSpec.upto (s : _root_.Go.ChangeSpec) : _root_.Go.OpenSpec := { _root_.Go.OpenSpec.ofChange s with cond := some uptoSmall }

/-- 'undercroftlaw08.BuddyTakes', WHERE WHAT IT READS IS OF BULK AT MOST 1048576: true; the input reads as it did. -/
def buddyTakesUptoRow : OpenClaim := { program := "ytlhpejdbmbpmhaa", sum := "4c379f01b48d537dd375dc194bff2b115f89c069500ef5bf2c419bc2c4e70523", func := "undercroft/undercroftlaw08.BuddyTakes", spec := "buddyTakes", unfollowed := true, recurses := true, apart := false, narrowed := true }
def BuddyTakesUptoSaid : Prop := buddyTakesUptoRow.holds Try.pinned (OpenSpec.upto buddyTakesSpec)

/-- 'undercroftlaw08.BuddyBest', WHERE WHAT IT READS IS OF BULK AT MOST 1048576: true; the input reads as it did. -/
def buddyBestUptoRow : OpenClaim := { program := "ytlhpejdbmbpmhaa", sum := "4c379f01b48d537dd375dc194bff2b115f89c069500ef5bf2c419bc2c4e70523", func := "undercroft/undercroftlaw08.BuddyBest", spec := "buddyBest", unfollowed := true, recurses := true, apart := false, narrowed := true }
def BuddyBestUptoSaid : Prop := buddyBestUptoRow.holds Try.pinned (OpenSpec.upto buddyBestSpec)

/-- 'undercroftlaw08.BuddyOrders', WHERE WHAT IT READS IS OF BULK AT MOST 1048576: true; the input reads as it did. -/
def buddyOrdersUptoRow : OpenClaim := { program := "ytlhpejdbmbpmhaa", sum := "4c379f01b48d537dd375dc194bff2b115f89c069500ef5bf2c419bc2c4e70523", func := "undercroft/undercroftlaw08.BuddyOrders", spec := "buddyOrders", unfollowed := true, recurses := true, apart := false, narrowed := true }
def BuddyOrdersUptoSaid : Prop := buddyOrdersUptoRow.holds Try.pinned (OpenSpec.upto buddyOrdersSpec)

/-- 'undercroftlaw08.BuddyGives', WHERE WHAT IT READS IS OF BULK AT MOST 1048576: true; the input reads as it did. -/
def buddyGivesUptoRow : OpenClaim := { program := "ytlhpejdbmbpmhaa", sum := "4c379f01b48d537dd375dc194bff2b115f89c069500ef5bf2c419bc2c4e70523", func := "undercroft/undercroftlaw08.BuddyGives", spec := "buddyGives", unfollowed := true, recurses := true, apart := false, narrowed := true }
def BuddyGivesUptoSaid : Prop := buddyGivesUptoRow.holds Try.pinned (OpenSpec.upto buddyGivesSpec)

/-- 'undercroftlaw08.BuddyAll', WHERE WHAT IT READS IS OF BULK AT MOST 1048576: true; the input reads as it did. -/
def buddyAllUptoRow : OpenClaim := { program := "ytlhpejdbmbpmhaa", sum := "4c379f01b48d537dd375dc194bff2b115f89c069500ef5bf2c419bc2c4e70523", func := "undercroft/undercroftlaw08.BuddyAll", spec := "buddyAll", unfollowed := true, recurses := true, apart := false, narrowed := true }
def BuddyAllUptoSaid : Prop := buddyAllUptoRow.holds Try.pinned (OpenSpec.upto buddyAllSpec)

/-- 'undercroftlaw08.BuddyFree', WHERE WHAT IT READS IS OF BULK AT MOST 1048576: true; the input reads as it did. -/
def buddyFreeUptoRow : OpenClaim := { program := "ytlhpejdbmbpmhaa", sum := "4c379f01b48d537dd375dc194bff2b115f89c069500ef5bf2c419bc2c4e70523", func := "undercroft/undercroftlaw08.BuddyFree", spec := "buddyFree", unfollowed := true, recurses := true, apart := false, narrowed := true }
def BuddyFreeUptoSaid : Prop := buddyFreeUptoRow.holds Try.pinned (OpenSpec.upto buddyFreeSpec)

/-- 'undercroftlaw08.BuddyTwice', WHERE WHAT IT READS IS OF BULK AT MOST 1048576: true; the input reads as it did. -/
def buddyTwiceUptoRow : OpenClaim := { program := "ytlhpejdbmbpmhaa", sum := "4c379f01b48d537dd375dc194bff2b115f89c069500ef5bf2c419bc2c4e70523", func := "undercroft/undercroftlaw08.BuddyTwice", spec := "buddyTwice", unfollowed := true, recurses := true, apart := false, narrowed := true }
def BuddyTwiceUptoSaid : Prop := buddyTwiceUptoRow.holds Try.pinned (OpenSpec.upto buddyTwiceSpec)

end Rows
end Go.Proofs.Ytlhpejdbmbpmhaa
