/- XCrc3: what this claim uses. Laid by slim.py (ours). -/
import Derived.Test.YtpihpabofgmahaaKXCrc2
namespace Go.Proofs.Ytpihpabofgmahaa.X
open Go Go.Proofs.YtpihpabofgmahaaW Go.Proofs.YtpihpabofgmahaaW.PrintWords
def hit (n8 first burst j : Nat) : Bool := burst.testBit j && decide (first + j < n8)
end Go.Proofs.Ytpihpabofgmahaa.X
