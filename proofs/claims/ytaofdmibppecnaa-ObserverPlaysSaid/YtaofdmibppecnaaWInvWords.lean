-- Laid by a program of this session out of what print.sh lays for this seat: what the claims use of it.
import Derived.Test.YtaofdmibppecnaaWInv
import Derived.Test.YtaofdmibppecnaaWFootNe
namespace Go.Proofs.YtaofdmibppecnaaW.PrintWords
open Go.RowKit
end Go.Proofs.YtaofdmibppecnaaW.PrintWords
namespace Go.Proofs.YtaofdmibppecnaaW.PrintLast
section
variable {ops : Array Oper} {a : Act} {o og : Oper} {g : Nat} {t : Tmp} {u : Bool}
end
end Go.Proofs.YtaofdmibppecnaaW.PrintLast
