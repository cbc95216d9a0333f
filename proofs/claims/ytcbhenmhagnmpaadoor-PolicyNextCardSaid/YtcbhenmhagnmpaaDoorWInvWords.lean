-- Laid by a program of this session out of what print.sh lays for this seat: what the claims use of it.
import Derived.Test.YtcbhenmhagnmpaaDoorWInv
import Derived.Test.YtcbhenmhagnmpaaDoorWFootNe
namespace Go.Proofs.YtcbhenmhagnmpaaDoorW.PrintWords
open Go.RowKit
end Go.Proofs.YtcbhenmhagnmpaaDoorW.PrintWords
namespace Go.Proofs.YtcbhenmhagnmpaaDoorW.PrintLast
section
variable {ops : Array Oper} {a : Act} {o og : Oper} {g : Nat} {t : Tmp} {u : Bool}
end
end Go.Proofs.YtcbhenmhagnmpaaDoorW.PrintLast
