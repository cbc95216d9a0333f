-- Laid by a program of this session out of what print.sh lays for this seat: what the claims use of it.
import Derived.Test.YtcbhenmhagnmpaaDoorWN
/-! ### 52. A row that stays read whatever happens to a block (a set of blocks) doesn't lie there -/
namespace Go.Proofs.YtcbhenmhagnmpaaDoorW.PrintWords
open Go.RowKit
namespace Kd
section
variable {α : Type} {d : Kd α} {W : World} {g n : Nat} {S ok : Nat → Prop} {A : Option Addr} {ad : Addr} {xs : List α}
end
end Kd
end Go.Proofs.YtcbhenmhagnmpaaDoorW.PrintWords
