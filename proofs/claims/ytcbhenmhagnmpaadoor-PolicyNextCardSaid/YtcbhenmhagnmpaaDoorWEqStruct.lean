-- Laid by a program of this session out of what print.sh lays for this seat: what the claims use of it.
import Derived.Test.YtcbhenmhagnmpaaDoorWWords
import Derived.Laws.StructEq
/-! ### 53. '==' of structs as_ one Bool -/
namespace Go.Proofs.YtcbhenmhagnmpaaDoorW.PrintWords
open Go.RowKit
section
variable {P : Program} {d : Nat} {xs ys : Array Value} {f : Field} {fs : List Field} {a b : Value} {r s : Bool} {w : World}
end
end Go.Proofs.YtcbhenmhagnmpaaDoorW.PrintWords
