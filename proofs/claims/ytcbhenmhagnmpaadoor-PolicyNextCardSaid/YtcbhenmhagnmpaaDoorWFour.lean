-- Laid by a program of this session out of what print.sh lays for this seat: what the claims use of it.
import Derived.Test.YtcbhenmhagnmpaaDoorWTab
/-! ### 56. Four, five, six operations that may come up next, in any order -/
namespace Go.Proofs.YtcbhenmhagnmpaaDoorW.PrintLast
section
variable {P : Program} {ops : Array Oper} {Q : Exit → Act → World → Prop} {md : Region.Mode} {S : World → Prop} {ds : List Nat} {T : Bool × List (List Nat × List Nat)}
end
end Go.Proofs.YtcbhenmhagnmpaaDoorW.PrintLast
