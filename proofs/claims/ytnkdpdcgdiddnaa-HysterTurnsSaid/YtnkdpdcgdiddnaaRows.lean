/-
  No cell of these rows narrows 'for every input' (looked for: loops, veiled, ifaces, maps, wideKeys, modest, calm, conditions, laid).
  DERIVED. THE GIVEN ROWS OF THIS SEAT. 5 by the template 'for every input the law returns true; each argument reads behind the call as it read before'; 0 by the template 'total and deterministic' (their statements: YtnkdpdcgdiddnaaTotals.lean).
  GIVEN WITH THE SEED: the statements are not yours to turn. If you find one false, say at which input.
  Laid BY PROGRAM, IN A SANDBOX (cutbox-rows.mjs): the forced cells as the released guide's own fill.sh prints them over the translation 5f60910441626a19… (all of the seat's roots in one cut). By AI agents, Wed Nov 11 2026. No macro, syntax, notation, axiom, sorry.
-/
import Derived.Test.YtnkdpdcgdiddnaaChecked
import GoSem.Claim
import GoSem.ClaimJoined
import GoSem.ClaimMapViews
import Derived.JoinedTies
import Derived.KernelRfl
namespace Go.Proofs.Ytnkdpdcgdiddnaa
/- THE CELL 'sum', in the pinned program and in every row, IS THE sha256 OF THE DUMP (.gsa) THAT YtnkdpdcgdiddnaaProg.lean LOADS. Nothing in Lean hashes anything: it is a label: what it is worth is what the hold of that sum in a sandbox is worth. -/
noncomputable def Try.pinned : Pinned := { name := "ytnkdpdcgdiddnaa", sum := "5f60910441626a194c64173c1756926a3c7e8654b4397e03f29964b7a7d54f1a", checked := Try.checked }
namespace Rows
def none {H : Type} : Left H := { results := [], args := [] }

/-- 'locumlaw09.HysterNext': WHATEVER THE INPUT: true; the input reads as it did. -/
def hysterNextSpec : ChangeSpec := { name := "hysterNext", fn := fun _ => fun
  | [d1, d2, d3, d4] => { results := [.lit (.bool true)], args := [d1, d2, d3, d4] }
  | _ => none }
def hysterNextRow : OpenClaim := { program := "ytnkdpdcgdiddnaa", sum := "5f60910441626a194c64173c1756926a3c7e8654b4397e03f29964b7a7d54f1a", func := "locum/locumlaw09.HysterNext", spec := "hysterNext", apart := false }
def HysterNextSaid : Prop := hysterNextRow.holds Try.pinned (OpenSpec.ofChange hysterNextSpec)

/-- ITS FALSE NEIGHBOUR: 'it returns false'. Refute it at one input. -/
def hysterNextWrong : ChangeSpec := { name := "hysterNext", fn := fun _ => fun
  | [d1, d2, d3, d4] => { results := [.lit (.bool false)], args := [d1, d2, d3, d4] }
  | _ => none }
def HysterNextWrongFalsely : Prop := hysterNextRow.holds Try.pinned (OpenSpec.ofChange hysterNextWrong)

/-- 'locumlaw09.HysterPieces': WHATEVER THE INPUT: true; the input reads as it did. -/
def hysterPiecesSpec : ChangeSpec := { name := "hysterPieces", fn := fun _ => fun
  | [d1, d2, d3, d4, d5] => { results := [.lit (.bool true)], args := [d1, d2, d3, d4, d5] }
  | _ => none }
def hysterPiecesRow : OpenClaim := { program := "ytnkdpdcgdiddnaa", sum := "5f60910441626a194c64173c1756926a3c7e8654b4397e03f29964b7a7d54f1a", func := "locum/locumlaw09.HysterPieces", spec := "hysterPieces", apart := false }
def HysterPiecesSaid : Prop := hysterPiecesRow.holds Try.pinned (OpenSpec.ofChange hysterPiecesSpec)

/-- ITS FALSE NEIGHBOUR: 'it returns false'. Refute it at one input. -/
def hysterPiecesWrong : ChangeSpec := { name := "hysterPieces", fn := fun _ => fun
  | [d1, d2, d3, d4, d5] => { results := [.lit (.bool false)], args := [d1, d2, d3, d4, d5] }
  | _ => none }
def HysterPiecesWrongFalsely : Prop := hysterPiecesRow.holds Try.pinned (OpenSpec.ofChange hysterPiecesWrong)

/-- 'locumlaw09.HysterRows': WHATEVER THE INPUT: true; the input reads as it did. -/
def hysterRowsSpec : ChangeSpec := { name := "hysterRows", fn := fun _ => fun
  | [d1, d2, d3, d4, d5] => { results := [.lit (.bool true)], args := [d1, d2, d3, d4, d5] }
  | _ => none }
def hysterRowsRow : OpenClaim := { program := "ytnkdpdcgdiddnaa", sum := "5f60910441626a194c64173c1756926a3c7e8654b4397e03f29964b7a7d54f1a", func := "locum/locumlaw09.HysterRows", spec := "hysterRows", apart := false }
def HysterRowsSaid : Prop := hysterRowsRow.holds Try.pinned (OpenSpec.ofChange hysterRowsSpec)

/-- ITS FALSE NEIGHBOUR: 'it returns false'. Refute it at one input. -/
def hysterRowsWrong : ChangeSpec := { name := "hysterRows", fn := fun _ => fun
  | [d1, d2, d3, d4, d5] => { results := [.lit (.bool false)], args := [d1, d2, d3, d4, d5] }
  | _ => none }
def HysterRowsWrongFalsely : Prop := hysterRowsRow.holds Try.pinned (OpenSpec.ofChange hysterRowsWrong)

/-- 'locumlaw09.HysterOne': WHATEVER THE INPUT: true; the input reads as it did. -/
def hysterOneSpec : ChangeSpec := { name := "hysterOne", fn := fun _ => fun
  | [d1, d2, d3] => { results := [.lit (.bool true)], args := [d1, d2, d3] }
  | _ => none }
def hysterOneRow : OpenClaim := { program := "ytnkdpdcgdiddnaa", sum := "5f60910441626a194c64173c1756926a3c7e8654b4397e03f29964b7a7d54f1a", func := "locum/locumlaw09.HysterOne", spec := "hysterOne", apart := false }
def HysterOneSaid : Prop := hysterOneRow.holds Try.pinned (OpenSpec.ofChange hysterOneSpec)

/-- ITS FALSE NEIGHBOUR: 'it returns false'. Refute it at one input. -/
def hysterOneWrong : ChangeSpec := { name := "hysterOne", fn := fun _ => fun
  | [d1, d2, d3] => { results := [.lit (.bool false)], args := [d1, d2, d3] }
  | _ => none }
def HysterOneWrongFalsely : Prop := hysterOneRow.holds Try.pinned (OpenSpec.ofChange hysterOneWrong)

/-- 'locumlaw09.HysterTurns': WHATEVER THE INPUT: true; the input reads as it did. -/
def hysterTurnsSpec : ChangeSpec := { name := "hysterTurns", fn := fun _ => fun
  | [d1, d2, d3, d4] => { results := [.lit (.bool true)], args := [d1, d2, d3, d4] }
  | _ => none }
def hysterTurnsRow : OpenClaim := { program := "ytnkdpdcgdiddnaa", sum := "5f60910441626a194c64173c1756926a3c7e8654b4397e03f29964b7a7d54f1a", func := "locum/locumlaw09.HysterTurns", spec := "hysterTurns", apart := false }
def HysterTurnsSaid : Prop := hysterTurnsRow.holds Try.pinned (OpenSpec.ofChange hysterTurnsSpec)

/-- ITS FALSE NEIGHBOUR: 'it returns false'. Refute it at one input. -/
def hysterTurnsWrong : ChangeSpec := { name := "hysterTurns", fn := fun _ => fun
  | [d1, d2, d3, d4] => { results := [.lit (.bool false)], args := [d1, d2, d3, d4] }
  | _ => none }
def HysterTurnsWrongFalsely : Prop := hysterTurnsRow.holds Try.pinned (OpenSpec.ofChange hysterTurnsWrong)

/- THE SECOND FORM. 'bulk': how many values and letters a reading holds, each counted each time it is reached (what is shared counts as often as it is met; a slice's spare places count too). A statement '..UptoSaid' is the law's where the arguments, and the package variables that the reading takes, are together of bulk at most 1048576: NARROWER than '..Said'. Prove '..Said' where nothing that the law and all that it calls make is longer than what came in: it says more and counts as full. Else prove '..UptoSaid'. A law counts once. -/
mutual
def uptoBulk {H : Type} : DataW H → Nat
  | .lit (.string bytes) => bytes.length + 1
  | .lit _ => 1
  | .nil => 1
  | .ptr d => uptoBulk d + 1
  | .slice elems spare => uptoBulkAll elems + uptoBulkAll spare + 1
  | .agg parts => uptoBulkAll parts + 1
  | .iface _ d => uptoBulk d + 1
  | .map entries => uptoBulkEntries entries + 1
  | .held _ => 1
def uptoBulkAll {H : Type} : List (DataW H) → Nat
  | [] => 0
  | d :: r => uptoBulk d + uptoBulkAll r
def uptoBulkEntries {H : Type} : List (Lit × DataW H) → Nat
  | [] => 0
  | x :: r => uptoBulkEntry x + uptoBulkEntries r
def uptoBulkEntry {H : Type} : Lit × DataW H → Nat
  | (.string bytes, d) => bytes.length + uptoBulk d + 1
  | (_, d) => uptoBulk d + 1
 end
def uptoSmall : (H : Type) → List (DataW H) → Bool := fun _ ds => decide (uptoBulkAll ds ≤ 1048576)
def OpenSpec.upto (s : _root_.Go.ChangeSpec) : _root_.Go.OpenSpec := { _root_.Go.OpenSpec.ofChange s with cond := some uptoSmall }

/-- 'locumlaw09.HysterNext', WHERE WHAT IT READS IS OF BULK AT MOST 1048576: true; the input reads as it did. -/
def hysterNextUptoRow : OpenClaim := { program := "ytnkdpdcgdiddnaa", sum := "5f60910441626a194c64173c1756926a3c7e8654b4397e03f29964b7a7d54f1a", func := "locum/locumlaw09.HysterNext", spec := "hysterNext", apart := false, narrowed := true }
def HysterNextUptoSaid : Prop := hysterNextUptoRow.holds Try.pinned (OpenSpec.upto hysterNextSpec)

/-- 'locumlaw09.HysterPieces', WHERE WHAT IT READS IS OF BULK AT MOST 1048576: true; the input reads as it did. -/
def hysterPiecesUptoRow : OpenClaim := { program := "ytnkdpdcgdiddnaa", sum := "5f60910441626a194c64173c1756926a3c7e8654b4397e03f29964b7a7d54f1a", func := "locum/locumlaw09.HysterPieces", spec := "hysterPieces", apart := false, narrowed := true }
def HysterPiecesUptoSaid : Prop := hysterPiecesUptoRow.holds Try.pinned (OpenSpec.upto hysterPiecesSpec)

/-- 'locumlaw09.HysterRows', WHERE WHAT IT READS IS OF BULK AT MOST 1048576: true; the input reads as it did. -/
def hysterRowsUptoRow : OpenClaim := { program := "ytnkdpdcgdiddnaa", sum := "5f60910441626a194c64173c1756926a3c7e8654b4397e03f29964b7a7d54f1a", func := "locum/locumlaw09.HysterRows", spec := "hysterRows", apart := false, narrowed := true }
def HysterRowsUptoSaid : Prop := hysterRowsUptoRow.holds Try.pinned (OpenSpec.upto hysterRowsSpec)

/-- 'locumlaw09.HysterOne', WHERE WHAT IT READS IS OF BULK AT MOST 1048576: true; the input reads as it did. -/
def hysterOneUptoRow : OpenClaim := { program := "ytnkdpdcgdiddnaa", sum := "5f60910441626a194c64173c1756926a3c7e8654b4397e03f29964b7a7d54f1a", func := "locum/locumlaw09.HysterOne", spec := "hysterOne", apart := false, narrowed := true }
def HysterOneUptoSaid : Prop := hysterOneUptoRow.holds Try.pinned (OpenSpec.upto hysterOneSpec)

/-- 'locumlaw09.HysterTurns', WHERE WHAT IT READS IS OF BULK AT MOST 1048576: true; the input reads as it did. -/
def hysterTurnsUptoRow : OpenClaim := { program := "ytnkdpdcgdiddnaa", sum := "5f60910441626a194c64173c1756926a3c7e8654b4397e03f29964b7a7d54f1a", func := "locum/locumlaw09.HysterTurns", spec := "hysterTurns", apart := false, narrowed := true }
def HysterTurnsUptoSaid : Prop := hysterTurnsUptoRow.holds Try.pinned (OpenSpec.upto hysterTurnsSpec)

end Rows
end Go.Proofs.Ytnkdpdcgdiddnaa
