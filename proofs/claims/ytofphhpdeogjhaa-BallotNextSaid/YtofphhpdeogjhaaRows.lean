/-
  No cell of these rows narrows 'for every input' (looked for: loops, veiled, ifaces, maps, wideKeys, modest, calm, conditions, laid).
  DERIVED. THE GIVEN ROWS OF THIS SEAT. 5 by the template 'for every input the law returns true; each argument reads behind the call as it read before'; 0 by the template 'total and deterministic' (their statements: YtofphhpdeogjhaaTotals.lean).
  GIVEN WITH THE SEED: the statements are not yours to turn. If you find one false, say at which input.
  Laid BY PROGRAM, IN A SANDBOX (cutbox-rows.mjs): the forced cells as the released guide's own fill.sh prints them over the translation f8043875de5df537… (all of the seat's roots in one cut). By AI agents, Wed Nov 11 2026. No macro, syntax, notation, axiom, sorry.
-/
import Derived.Test.YtofphhpdeogjhaaChecked
import GoSem.Claim
import GoSem.ClaimJoined
import GoSem.ClaimMapViews
import Derived.JoinedTies
import Derived.KernelRfl
namespace Go.Proofs.Ytofphhpdeogjhaa
/- THE CELL 'sum', in the pinned program and in every row, IS THE sha256 OF THE DUMP (.gsa) THAT YtofphhpdeogjhaaProg.lean LOADS. Nothing in Lean hashes anything: it is a label: what it is worth is what the hold of that sum in a sandbox is worth. -/
noncomputable def Try.pinned : Pinned := { name := "ytofphhpdeogjhaa", sum := "f8043875de5df53707fc9398b493ad1b55ea7e064380562ba12e1f7da4b39e0d", checked := Try.checked }
namespace Rows
def none {H : Type} : Left H := { results := [], args := [] }

/-- 'locumlaw14.BallotRounds': WHATEVER THE INPUT: true; the input reads as it did. -/
def ballotRoundsSpec : ChangeSpec := { name := "ballotRounds", fn := fun _ => fun
  | [d1, d2, d3, d4, d5, d6] => { results := [.lit (.bool true)], args := [d1, d2, d3, d4, d5, d6] }
  | _ => none }
def ballotRoundsRow : OpenClaim := { program := "ytofphhpdeogjhaa", sum := "f8043875de5df53707fc9398b493ad1b55ea7e064380562ba12e1f7da4b39e0d", func := "locum/locumlaw14.BallotRounds", spec := "ballotRounds", apart := false }
def BallotRoundsSaid : Prop := ballotRoundsRow.holds Try.pinned (OpenSpec.ofChange ballotRoundsSpec)

/-- ITS FALSE NEIGHBOUR: 'it returns false'. Refute it at one input. -/
def ballotRoundsWrong : ChangeSpec := { name := "ballotRounds", fn := fun _ => fun
  | [d1, d2, d3, d4, d5, d6] => { results := [.lit (.bool false)], args := [d1, d2, d3, d4, d5, d6] }
  | _ => none }
def BallotRoundsWrongFalsely : Prop := ballotRoundsRow.holds Try.pinned (OpenSpec.ofChange ballotRoundsWrong)

/-- 'locumlaw14.BallotAbove': WHATEVER THE INPUT: true; the input reads as it did. -/
def ballotAboveSpec : ChangeSpec := { name := "ballotAbove", fn := fun _ => fun
  | [d1, d2, d3, d4] => { results := [.lit (.bool true)], args := [d1, d2, d3, d4] }
  | _ => none }
def ballotAboveRow : OpenClaim := { program := "ytofphhpdeogjhaa", sum := "f8043875de5df53707fc9398b493ad1b55ea7e064380562ba12e1f7da4b39e0d", func := "locum/locumlaw14.BallotAbove", spec := "ballotAbove", apart := false }
def BallotAboveSaid : Prop := ballotAboveRow.holds Try.pinned (OpenSpec.ofChange ballotAboveSpec)

/-- ITS FALSE NEIGHBOUR: 'it returns false'. Refute it at one input. -/
def ballotAboveWrong : ChangeSpec := { name := "ballotAbove", fn := fun _ => fun
  | [d1, d2, d3, d4] => { results := [.lit (.bool false)], args := [d1, d2, d3, d4] }
  | _ => none }
def BallotAboveWrongFalsely : Prop := ballotAboveRow.holds Try.pinned (OpenSpec.ofChange ballotAboveWrong)

/-- 'locumlaw14.BallotTells': WHATEVER THE INPUT: true; the input reads as it did. -/
def ballotTellsSpec : ChangeSpec := { name := "ballotTells", fn := fun _ => fun
  | [d1, d2, d3, d4] => { results := [.lit (.bool true)], args := [d1, d2, d3, d4] }
  | _ => none }
def ballotTellsRow : OpenClaim := { program := "ytofphhpdeogjhaa", sum := "f8043875de5df53707fc9398b493ad1b55ea7e064380562ba12e1f7da4b39e0d", func := "locum/locumlaw14.BallotTells", spec := "ballotTells", apart := false }
def BallotTellsSaid : Prop := ballotTellsRow.holds Try.pinned (OpenSpec.ofChange ballotTellsSpec)

/-- ITS FALSE NEIGHBOUR: 'it returns false'. Refute it at one input. -/
def ballotTellsWrong : ChangeSpec := { name := "ballotTells", fn := fun _ => fun
  | [d1, d2, d3, d4] => { results := [.lit (.bool false)], args := [d1, d2, d3, d4] }
  | _ => none }
def BallotTellsWrongFalsely : Prop := ballotTellsRow.holds Try.pinned (OpenSpec.ofChange ballotTellsWrong)

/-- 'locumlaw14.BallotBack': WHATEVER THE INPUT: true; the input reads as it did. -/
def ballotBackSpec : ChangeSpec := { name := "ballotBack", fn := fun _ => fun
  | [d1, d2, d3, d4, d5, d6] => { results := [.lit (.bool true)], args := [d1, d2, d3, d4, d5, d6] }
  | _ => none }
def ballotBackRow : OpenClaim := { program := "ytofphhpdeogjhaa", sum := "f8043875de5df53707fc9398b493ad1b55ea7e064380562ba12e1f7da4b39e0d", func := "locum/locumlaw14.BallotBack", spec := "ballotBack", apart := false }
def BallotBackSaid : Prop := ballotBackRow.holds Try.pinned (OpenSpec.ofChange ballotBackSpec)

/-- ITS FALSE NEIGHBOUR: 'it returns false'. Refute it at one input. -/
def ballotBackWrong : ChangeSpec := { name := "ballotBack", fn := fun _ => fun
  | [d1, d2, d3, d4, d5, d6] => { results := [.lit (.bool false)], args := [d1, d2, d3, d4, d5, d6] }
  | _ => none }
def BallotBackWrongFalsely : Prop := ballotBackRow.holds Try.pinned (OpenSpec.ofChange ballotBackWrong)

/-- 'locumlaw14.BallotNext': WHATEVER THE INPUT: true; the input reads as it did. -/
def ballotNextSpec : ChangeSpec := { name := "ballotNext", fn := fun _ => fun
  | [d1, d2, d3, d4] => { results := [.lit (.bool true)], args := [d1, d2, d3, d4] }
  | _ => none }
def ballotNextRow : OpenClaim := { program := "ytofphhpdeogjhaa", sum := "f8043875de5df53707fc9398b493ad1b55ea7e064380562ba12e1f7da4b39e0d", func := "locum/locumlaw14.BallotNext", spec := "ballotNext", apart := false }
def BallotNextSaid : Prop := ballotNextRow.holds Try.pinned (OpenSpec.ofChange ballotNextSpec)

/-- ITS FALSE NEIGHBOUR: 'it returns false'. Refute it at one input. -/
def ballotNextWrong : ChangeSpec := { name := "ballotNext", fn := fun _ => fun
  | [d1, d2, d3, d4] => { results := [.lit (.bool false)], args := [d1, d2, d3, d4] }
  | _ => none }
def BallotNextWrongFalsely : Prop := ballotNextRow.holds Try.pinned (OpenSpec.ofChange ballotNextWrong)

/- THE SECOND FORM. 'bulk': how many values and letters a reading holds, each counted each time it is reached (what is shared counts as often as it is met; a slice's spare places count too). A statement '..UptoSaid' is the law's where the arguments, and the package variables that the reading takes, are together of bulk at most 1048576: NARROWER than '..Said'. Prove '..Said' where nothing that the law and all that it calls make is longer than what came in: it says more and counts as full. Else prove '..UptoSaid'. A law counts once. -/
mutual
def uptoBulk {H : Type} : DataW H → Nat
  | .lit (.string bytes) => bytes.length + 1
  | .lit _ => 1
  | .nil => 1
  | .ptr d => uptoBulk d + 1
  | .slice elems spare => uptoBulkAll elems + uptoBulkAll spare + 1
  | .agg parts => uptoBulkAll parts + 1
  | .iface _ d => uptoBulk d + 1
  | .map entries => uptoBulkEntries entries + 1
  | .held _ => 1
def uptoBulkAll {H : Type} : List (DataW H) → Nat
  | [] => 0
  | d :: r => uptoBulk d + uptoBulkAll r
def uptoBulkEntries {H : Type} : List (Lit × DataW H) → Nat
  | [] => 0
  | x :: r => uptoBulkEntry x + uptoBulkEntries r
def uptoBulkEntry {H : Type} : Lit × DataW H → Nat
  | (.string bytes, d) => bytes.length + uptoBulk d + 1
  | (_, d) => uptoBulk d + 1
 end
def uptoSmall : (H : Type) → List (DataW H) → Bool := fun _ ds => decide (uptoBulkAll ds ≤ 1048576)
def OpenSpec.upto (s : _root_.Go.ChangeSpec) : _root_.Go.OpenSpec := { _root_.Go.OpenSpec.ofChange s with cond := some uptoSmall }

/-- 'locumlaw14.BallotRounds', WHERE WHAT IT READS IS OF BULK AT MOST 1048576: true; the input reads as it did. -/
def ballotRoundsUptoRow : OpenClaim := { program := "ytofphhpdeogjhaa", sum := "f8043875de5df53707fc9398b493ad1b55ea7e064380562ba12e1f7da4b39e0d", func := "locum/locumlaw14.BallotRounds", spec := "ballotRounds", apart := false, narrowed := true }
def BallotRoundsUptoSaid : Prop := ballotRoundsUptoRow.holds Try.pinned (OpenSpec.upto ballotRoundsSpec)

/-- 'locumlaw14.BallotAbove', WHERE WHAT IT READS IS OF BULK AT MOST 1048576: true; the input reads as it did. -/
def ballotAboveUptoRow : OpenClaim := { program := "ytofphhpdeogjhaa", sum := "f8043875de5df53707fc9398b493ad1b55ea7e064380562ba12e1f7da4b39e0d", func := "locum/locumlaw14.BallotAbove", spec := "ballotAbove", apart := false, narrowed := true }
def BallotAboveUptoSaid : Prop := ballotAboveUptoRow.holds Try.pinned (OpenSpec.upto ballotAboveSpec)

/-- 'locumlaw14.BallotTells', WHERE WHAT IT READS IS OF BULK AT MOST 1048576: true; the input reads as it did. -/
def ballotTellsUptoRow : OpenClaim := { program := "ytofphhpdeogjhaa", sum := "f8043875de5df53707fc9398b493ad1b55ea7e064380562ba12e1f7da4b39e0d", func := "locum/locumlaw14.BallotTells", spec := "ballotTells", apart := false, narrowed := true }
def BallotTellsUptoSaid : Prop := ballotTellsUptoRow.holds Try.pinned (OpenSpec.upto ballotTellsSpec)

/-- 'locumlaw14.BallotBack', WHERE WHAT IT READS IS OF BULK AT MOST 1048576: true; the input reads as it did. -/
def ballotBackUptoRow : OpenClaim := { program := "ytofphhpdeogjhaa", sum := "f8043875de5df53707fc9398b493ad1b55ea7e064380562ba12e1f7da4b39e0d", func := "locum/locumlaw14.BallotBack", spec := "ballotBack", apart := false, narrowed := true }
def BallotBackUptoSaid : Prop := ballotBackUptoRow.holds Try.pinned (OpenSpec.upto ballotBackSpec)

/-- 'locumlaw14.BallotNext', WHERE WHAT IT READS IS OF BULK AT MOST 1048576: true; the input reads as it did. -/
def ballotNextUptoRow : OpenClaim := { program := "ytofphhpdeogjhaa", sum := "f8043875de5df53707fc9398b493ad1b55ea7e064380562ba12e1f7da4b39e0d", func := "locum/locumlaw14.BallotNext", spec := "ballotNext", apart := false, narrowed := true }
def BallotNextUptoSaid : Prop := ballotNextUptoRow.holds Try.pinned (OpenSpec.upto ballotNextSpec)

end Rows
end Go.Proofs.Ytofphhpdeogjhaa
