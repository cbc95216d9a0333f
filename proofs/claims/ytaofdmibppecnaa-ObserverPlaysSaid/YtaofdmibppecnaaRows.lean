/-
  No cell of these rows narrows 'for every input' (looked for: loops, veiled, ifaces, maps, wideKeys, modest, calm, conditions, laid).
  DERIVED. THE GIVEN ROWS OF THIS SEAT. 5 by the template 'for every input the law returns true; each argument reads behind the call as it read before'; 0 by the template 'total and deterministic' (their statements: YtaofdmibppecnaaTotals.lean).
  GIVEN WITH THE SEED: the statements are not yours to turn. If you find one false, say at which input.
  Laid BY PROGRAM, IN A SANDBOX (cutbox-rows.mjs): the forced cells as the released guide's own fill.sh prints them over the translation b7891d9543268c35… (all of the seat's roots in one cut). By AI agents, Wed Nov 11 2026. No macro, syntax, notation, axiom, sorry.
-/
import Derived.Test.YtaofdmibppecnaaChecked
import GoSem.Claim
import GoSem.ClaimJoined
import GoSem.ClaimMapViews
import Derived.JoinedTies
import Derived.KernelRfl
namespace Go.Proofs.Ytaofdmibppecnaa
/- THE CELL 'sum', in the pinned program and in every row, IS THE sha256 OF THE DUMP (.gsa) THAT YtaofdmibppecnaaProg.lean LOADS. Nothing in Lean hashes anything: it is a label: what it is worth is what the hold of that sum in a sandbox is worth. -/
noncomputable def Try.pinned : Pinned := { name := "ytaofdmibppecnaa", sum := "b7891d9543268c355373ba74f0797e6fdc5bd6b823409b37485d496583612d95", checked := Try.checked }
namespace Rows
def none {H : Type} : Left H := { results := [], args := [] }

/-- 'locumlaw23.ObserverVotes': WHATEVER THE INPUT: true; the input reads as it did. -/
def observerVotesSpec : ChangeSpec := { name := "observerVotes", fn := fun _ => fun
  | [d1, d2, d3] => { results := [.lit (.bool true)], args := [d1, d2, d3] }
  | _ => none }
def observerVotesRow : OpenClaim := { program := "ytaofdmibppecnaa", sum := "b7891d9543268c355373ba74f0797e6fdc5bd6b823409b37485d496583612d95", func := "locum/locumlaw23.ObserverVotes", spec := "observerVotes", unfollowed := true, recurses := true, apart := false }
def ObserverVotesSaid : Prop := observerVotesRow.holds Try.pinned (OpenSpec.ofChange observerVotesSpec)

/-- ITS FALSE NEIGHBOUR: 'it returns false'. Refute it at one input. -/
def observerVotesWrong : ChangeSpec := { name := "observerVotes", fn := fun _ => fun
  | [d1, d2, d3] => { results := [.lit (.bool false)], args := [d1, d2, d3] }
  | _ => none }
def ObserverVotesWrongFalsely : Prop := observerVotesRow.holds Try.pinned (OpenSpec.ofChange observerVotesWrong)

/-- 'locumlaw23.ObserverSees': WHATEVER THE INPUT: true; the input reads as it did. -/
def observerSeesSpec : ChangeSpec := { name := "observerSees", fn := fun _ => fun
  | [d1, d2] => { results := [.lit (.bool true)], args := [d1, d2] }
  | _ => none }
def observerSeesRow : OpenClaim := { program := "ytaofdmibppecnaa", sum := "b7891d9543268c355373ba74f0797e6fdc5bd6b823409b37485d496583612d95", func := "locum/locumlaw23.ObserverSees", spec := "observerSees", unfollowed := true, recurses := true, apart := false }
def ObserverSeesSaid : Prop := observerSeesRow.holds Try.pinned (OpenSpec.ofChange observerSeesSpec)

/-- ITS FALSE NEIGHBOUR: 'it returns false'. Refute it at one input. -/
def observerSeesWrong : ChangeSpec := { name := "observerSees", fn := fun _ => fun
  | [d1, d2] => { results := [.lit (.bool false)], args := [d1, d2] }
  | _ => none }
def ObserverSeesWrongFalsely : Prop := observerSeesRow.holds Try.pinned (OpenSpec.ofChange observerSeesWrong)

/-- 'locumlaw23.ObserverStale': WHATEVER THE INPUT: true; the input reads as it did. -/
def observerStaleSpec : ChangeSpec := { name := "observerStale", fn := fun _ => fun
  | [d1, d2, d3, d4] => { results := [.lit (.bool true)], args := [d1, d2, d3, d4] }
  | _ => none }
def observerStaleRow : OpenClaim := { program := "ytaofdmibppecnaa", sum := "b7891d9543268c355373ba74f0797e6fdc5bd6b823409b37485d496583612d95", func := "locum/locumlaw23.ObserverStale", spec := "observerStale", unfollowed := true, recurses := true, apart := false }
def ObserverStaleSaid : Prop := observerStaleRow.holds Try.pinned (OpenSpec.ofChange observerStaleSpec)

/-- ITS FALSE NEIGHBOUR: 'it returns false'. Refute it at one input. -/
def observerStaleWrong : ChangeSpec := { name := "observerStale", fn := fun _ => fun
  | [d1, d2, d3, d4] => { results := [.lit (.bool false)], args := [d1, d2, d3, d4] }
  | _ => none }
def ObserverStaleWrongFalsely : Prop := observerStaleRow.holds Try.pinned (OpenSpec.ofChange observerStaleWrong)

/-- 'locumlaw23.ObserverPlays': WHATEVER THE INPUT: true; the input reads as it did. -/
def observerPlaysSpec : ChangeSpec := { name := "observerPlays", fn := fun _ => fun
  | [d1, d2, d3] => { results := [.lit (.bool true)], args := [d1, d2, d3] }
  | _ => none }
def observerPlaysRow : OpenClaim := { program := "ytaofdmibppecnaa", sum := "b7891d9543268c355373ba74f0797e6fdc5bd6b823409b37485d496583612d95", func := "locum/locumlaw23.ObserverPlays", spec := "observerPlays", unfollowed := true, recurses := true, apart := false }
def ObserverPlaysSaid : Prop := observerPlaysRow.holds Try.pinned (OpenSpec.ofChange observerPlaysSpec)

/-- ITS FALSE NEIGHBOUR: 'it returns false'. Refute it at one input. -/
def observerPlaysWrong : ChangeSpec := { name := "observerPlays", fn := fun _ => fun
  | [d1, d2, d3] => { results := [.lit (.bool false)], args := [d1, d2, d3] }
  | _ => none }
def ObserverPlaysWrongFalsely : Prop := observerPlaysRow.holds Try.pinned (OpenSpec.ofChange observerPlaysWrong)

/-- 'locumlaw23.ObserverLoses': WHATEVER THE INPUT: true; the input reads as it did. -/
def observerLosesSpec : ChangeSpec := { name := "observerLoses", fn := fun _ => fun
  | [d1, d2, d3] => { results := [.lit (.bool true)], args := [d1, d2, d3] }
  | _ => none }
def observerLosesRow : OpenClaim := { program := "ytaofdmibppecnaa", sum := "b7891d9543268c355373ba74f0797e6fdc5bd6b823409b37485d496583612d95", func := "locum/locumlaw23.ObserverLoses", spec := "observerLoses", unfollowed := true, recurses := true, apart := false }
def ObserverLosesSaid : Prop := observerLosesRow.holds Try.pinned (OpenSpec.ofChange observerLosesSpec)

/-- ITS FALSE NEIGHBOUR: 'it returns false'. Refute it at one input. -/
def observerLosesWrong : ChangeSpec := { name := "observerLoses", fn := fun _ => fun
  | [d1, d2, d3] => { results := [.lit (.bool false)], args := [d1, d2, d3] }
  | _ => none }
def ObserverLosesWrongFalsely : Prop := observerLosesRow.holds Try.pinned (OpenSpec.ofChange observerLosesWrong)

/- THE SECOND FORM. 'bulk': how many values and letters a reading holds, each counted each time it is reached (what is shared counts as often as it is met; a slice's spare places count too). A statement '..UptoSaid' is the law's where the arguments, and the package variables that the reading takes, are together of bulk at most 1048576: NARROWER than '..Said'. Prove '..Said' where nothing that the law and all that it calls make is longer than what came in: it says more and counts as full. Else prove '..UptoSaid'. A law counts once. -/
mutual
def uptoBulk {H : Type} : DataW H → Nat
  | .lit (.string bytes) => bytes.length + 1
  | .lit _ => 1
  | .nil => 1
  | .ptr d => uptoBulk d + 1
  | .slice elems spare => uptoBulkAll elems + uptoBulkAll spare + 1
  | .agg parts => uptoBulkAll parts + 1
  | .iface _ d => uptoBulk d + 1
  | .map entries => uptoBulkEntries entries + 1
  | .held _ => 1
def uptoBulkAll {H : Type} : List (DataW H) → Nat
  | [] => 0
  | d :: r => uptoBulk d + uptoBulkAll r
def uptoBulkEntries {H : Type} : List (Lit × DataW H) → Nat
  | [] => 0
  | x :: r => uptoBulkEntry x + uptoBulkEntries r
def uptoBulkEntry {H : Type} : Lit × DataW H → Nat
  | (.string bytes, d) => bytes.length + uptoBulk d + 1
  | (_, d) => uptoBulk d + 1
 end
def uptoSmall : (H : Type) → List (DataW H) → Bool := fun _ ds => decide (uptoBulkAll ds ≤ 1048576)
def OpenSpec.upto (s : _root_.Go.ChangeSpec) : _root_.Go.OpenSpec := { _root_.Go.OpenSpec.ofChange s with cond := some uptoSmall }

/-- 'locumlaw23.ObserverVotes', WHERE WHAT IT READS IS OF BULK AT MOST 1048576: true; the input reads as it did. -/
def observerVotesUptoRow : OpenClaim := { program := "ytaofdmibppecnaa", sum := "b7891d9543268c355373ba74f0797e6fdc5bd6b823409b37485d496583612d95", func := "locum/locumlaw23.ObserverVotes", spec := "observerVotes", unfollowed := true, recurses := true, apart := false, narrowed := true }
def ObserverVotesUptoSaid : Prop := observerVotesUptoRow.holds Try.pinned (OpenSpec.upto observerVotesSpec)

/-- 'locumlaw23.ObserverSees', WHERE WHAT IT READS IS OF BULK AT MOST 1048576: true; the input reads as it did. -/
def observerSeesUptoRow : OpenClaim := { program := "ytaofdmibppecnaa", sum := "b7891d9543268c355373ba74f0797e6fdc5bd6b823409b37485d496583612d95", func := "locum/locumlaw23.ObserverSees", spec := "observerSees", unfollowed := true, recurses := true, apart := false, narrowed := true }
def ObserverSeesUptoSaid : Prop := observerSeesUptoRow.holds Try.pinned (OpenSpec.upto observerSeesSpec)

/-- 'locumlaw23.ObserverStale', WHERE WHAT IT READS IS OF BULK AT MOST 1048576: true; the input reads as it did. -/
def observerStaleUptoRow : OpenClaim := { program := "ytaofdmibppecnaa", sum := "b7891d9543268c355373ba74f0797e6fdc5bd6b823409b37485d496583612d95", func := "locum/locumlaw23.ObserverStale", spec := "observerStale", unfollowed := true, recurses := true, apart := false, narrowed := true }
def ObserverStaleUptoSaid : Prop := observerStaleUptoRow.holds Try.pinned (OpenSpec.upto observerStaleSpec)

/-- 'locumlaw23.ObserverPlays', WHERE WHAT IT READS IS OF BULK AT MOST 1048576: true; the input reads as it did. -/
def observerPlaysUptoRow : OpenClaim := { program := "ytaofdmibppecnaa", sum := "b7891d9543268c355373ba74f0797e6fdc5bd6b823409b37485d496583612d95", func := "locum/locumlaw23.ObserverPlays", spec := "observerPlays", unfollowed := true, recurses := true, apart := false, narrowed := true }
def ObserverPlaysUptoSaid : Prop := observerPlaysUptoRow.holds Try.pinned (OpenSpec.upto observerPlaysSpec)

/-- 'locumlaw23.ObserverLoses', WHERE WHAT IT READS IS OF BULK AT MOST 1048576: true; the input reads as it did. -/
def observerLosesUptoRow : OpenClaim := { program := "ytaofdmibppecnaa", sum := "b7891d9543268c355373ba74f0797e6fdc5bd6b823409b37485d496583612d95", func := "locum/locumlaw23.ObserverLoses", spec := "observerLoses", unfollowed := true, recurses := true, apart := false, narrowed := true }
def ObserverLosesUptoSaid : Prop := observerLosesUptoRow.holds Try.pinned (OpenSpec.upto observerLosesSpec)

end Rows
end Go.Proofs.Ytaofdmibppecnaa
